/- Texts of the law FnEqualMeans, part 4: what it uses. -/
import Derived.Test.YthmbefiklpoghaaGreatEqm3
set_option linter.unusedVariables false
set_option linter.unusedSimpArgs false
set_option maxHeartbeats 4000000
set_option maxRecDepth 100000
namespace Go.Proofs.YthmbefiklpoghaaGreat
open Go.RowKit Go.ChangeShapes
open Go.RowKit
theorem mM (o n:Nt) (w:World) (ro:RdsNt w o) (ho:NtOk o) (hr:RdsNt w n) (hn:NtOk n) (hf:o.fst=n.fst) :
   Calls Tryz.prog 17 #[.agg #[.int .i64 o.ins,o.sv,o.av,o.ov],.agg #[.int .i64 n.ins,n.sv,n.av,n.ov]] w (Ret w (fun u_ p_=>∃(ps:List HP) (m:Nt) (tv:Value) (us:List Int),u_=.tuple #[m.agg,tv,.bool (impO o.fst n.gs o.gs (lfO o.fst)).isSome]∧p_=[bigE ps]∧(m=o∨∀w,(bigE ps).holds w→RdsNt w m)∧(∀w,(bigE ps).holds w→RdsW w tv 1 us.length (us.map (Value.int .i64)))∧(m.sv.oneCell'=true∧m.av.oneCell'=true∧m.ov.oneCell'=true)∧tv.oneCell'=true∧(∀r,impO o.fst n.gs o.gs (lfO o.fst)=some r→Gr o m∧r.1=m.gs∧us=rtM n r.2))):=by
 have hi0:=hn.i0
 have hi1:=hn.i1
 have hs1:=hn.s1
 have ha1:=hn.a1
 have ho1:=hn.o1
 have hcnt:n.cnt=1+n.ins+n.ss.length+n.gs.length:=rfl
 have hfst:n.fst=1+n.ins+n.ss.length:=rfl
 have hco:=eX ho
 have hco2:=gI o
 refine bN (N:=39) (args:=[.agg #[jI o.ins,o.sv,o.av,o.ov],.agg #[jI n.ins,n.sv,n.av,n.ov]]) Tryz.func17 A A (cF ?_)
 refine cR A (cN A A) ?_
 intro b1
 refine cR A (cN A A) ?_
 intro b2
 refine cR A (bP (z:=.agg #[jI 0,.slice none 0 0,.slice none 0 0,.slice none 0 0]) A A) ?_
 intro b3
 refine aU 2 A (cF ?_)
 refine dP A (dH (s:=1) A Tryz.underlying26 A) ?_
 intro g4
 refine aU 1 A (aC (bD 1 A (bE ?_)))
 refine gT (α:=Nat) (β:=Value) [0,1,2,3,4,5,6] A (fun k tv=>[rowE 3 1 tv ((evs2 k).length) (mI (evs2 k)),eB9 b3,nB9 b2 n,nB9 b1 o]) (fun k tv=>[(7,tv),(8,jI (k:Int))]) (fun k tv=>(k:Int)≤n.fst) (fun k tv=>n.fst.toNat-k) 0 _ (by omega) (cT A) (dS A) ?_
 intro k tv hi5
 have hk:=hi5
 have hek:=lS k
 refine aC (aC (bZ 1 A (aP A (aF (cs:=[jI n.ins,n.sv,n.av,n.ov]) A A A A A (aD 2 A 0 A)) ?_)))
 refine dA A (aJ A A (fun w hm=>aY (dD n w (hr.below hm.bel) hn))) (bQ A A A A A A (fun h6=>?_) (fun h6=>?_))
 refine bR (aR A (bY (fM (bZ 2 A (aP A (fO A A A (by constructor<;>omega)) ?_)))))
 refine dP A (bB (z:=jI 0) (s:=1) (cs:=(mI [2*(k:Int)])) A Tryz.underlying26 A (by decide) A (by kernel_rfl) A) ?_
 intro g7
 refine cW (i:=1) (z:=jI 0) (bytes:=8) A A A A Tryz.underlying26 (by kernel_rfl) A A A A (aG 0 A) (cO _) (by first|omega|(simp;done)|(simp;omega)) (cH (evs2 k) ([2*(k:Int)])) (dL (evs2 k) ([2*(k:Int)])) (fun _=>A) ?_
 intro v8
 refine dJ 1 A (cK (bZ 1 A (aP A (dM A A A) (dJ 1 A ?_))))
 exact oS (l':=[rowE 3 1 (.slice (some ⟨g7,0,none⟩) 1 1) 1 (mI [2*(k:Int)]),rowE 3 1 v8 ((evs2 (k+1)).length) (mI (evs2 (k+1))),eB9 b3,nB9 b2 n,nB9 b1 o]) (by rw[oV]) (cG (k+1) v8 (by omega) (by omega) (cT A) (eJ [1,0,0,0] A))
 refine bR (aS A ?_)
 refine bM (dI ?_)
 refine aO (bF (cF ?_))
 have hkf:k=o.fst.toNat:=by omega
 have hmk:MapOk (lfO o.fst) n.fst o.cnt:=by have h9:=mE (k:=o.fst.toNat) (m:=o.cnt) (by rw[gI];omega);rw[show((o.fst.toNat:Nat):Int)=n.fst by omega] at h9;exact h9
 refine eC (l':=[rowE 3 1 tv ((lfO o.fst).length) (mI (lfO o.fst)),eB9 b3,nB9 b2 n,nB9 b1 o]) (by rw[hkf];rfl) ?_
 refine aP A (aF (cs:=[jI o.ins,o.sv,o.av,o.ov]) A A A A A (aD 3 A 0 A)) (aM 1 A (aP A (aF (cs:=[jI n.ins,n.sv,n.av,n.ov]) A A A A A (aD 2 A 0 A)) ?_))
 refine eH (R:=(fun u_ p_=>∃(ps:List HP) (m:Nt) (tv:Value) (us:List Int),u_=.tuple #[m.agg,tv,.bool (impO o.fst n.gs o.gs (lfO o.fst)).isSome]∧p_=bigE ps∧(m=o∨∀w,(bigE ps).holds w→RdsNt w m)∧(∀w,(bigE ps).holds w→RdsW w tv 1 us.length (mI us))∧(m.sv.oneCell'=true∧m.av.oneCell'=true∧m.ov.oneCell'=true)∧tv.oneCell'=true∧ImpS o n (lfO o.fst) m us)) 0 A A A A A (fun l' w hm=>wE o n (lfO o.fst) tv _ _ w hm ro ho hr hn hmk) ?_
 intro v9 p10 R11
 obtain⟨pm,m,uv,us,rfl,rfl,hN,hpu,⟨o1m,o2m,o3m⟩,huv,hI⟩:=R11
 refine eC (l':=[bigE pm,eB9 b3,nB9 b2 n,nB9 b1 o]) A ?_
 refine aM 4 A (bW (fun h12=>?_) (fun h12=>?_))
 obtain⟨r,hr9⟩:=Option.isSome_iff_exists.1 h12
 obtain⟨hre,hG,hmkF⟩:=hI r hr9
 have hcm:=eX hG.ok
 have hcn:=eX hn
 have hrt:=gM hn n.ss.length (Nat.le_refl _)
 refine bI (cs':=#[jI m.ins,m.sv,m.av,m.ov]) (i:=3) (off:=0) (us:=[jI m.ins,m.sv,m.av,m.ov]) A A A A A A A (aA A (aA o1m (aA o2m (aA o3m bA)))) A A A (aU 2 A (aC (bD 2 A (aS A (bY ?_)))))
 refine aC ?_
 refine eV A 5 [0,1,2,3,4] (List.take 5 _) (List.drop 5 _) [[],[],[],[2],[1,3]] [34,35,36,37,38] (fun i_ vs_ v_ p_=>match i_ with|0=>v_=.agg #[jI m.ins,m.sv,m.av,m.ov]∧p_=[]|1=>v_=uv∧p_=[]|2=>v_=.agg #[jI n.ins,n.sv,n.av,n.ov]∧p_=[]|3=>(fun v' post=>post=[rI9 3 v' (rtsL n n.ss.length)]) v_ p_|4=>(fun v' post=>post=[rI9 3 v' ((mpS us (rtsL n n.ss.length)))]) v_ p_|_=>True) (List.take_append_drop 5 _).symm (by kernel_rfl) (by kernel_rfl) A A ?_ ?_
 refine⟨?_,?_,?_,?_,?_,trivial⟩
 intro vf pf hR
 exact eZ A (aI [2] A) (aT (aF (cs:=[jI m.ins,m.sv,m.av,m.ov]) A A A A A (aD 3 A 0 A)))
 intro vf pf hR
 exact fX A (aI [7] A) (aT (aK A))
 intro vf pf hR
 exact eZ A (aI [3] A) (aT (aF (cs:=[jI n.ins,n.sv,n.av,n.ov]) A A A A A (aD 2 A 0 A)))
 intro vf pf hR
 have e2:=hR 2 (by decide)
 exact eZ A (sk 36 (congrArg some e2.1) (aB _)) (aJ A A (fun w hm=>gW n w (hr.below hm.bel) hn))
 intro vf pf hR
 have e1:=hR 1 (by decide)
 have e3:(fun v' post=>post=[rI9 3 v' (rtsL n n.ss.length)]) (vf 3) (pf 3):=hR 3 (by decide)
 obtain⟨v13,vE3⟩:∃x,vf 3=x:=⟨_,rfl⟩
 obtain⟨p14,pE3⟩:∃x,pf 3=x:=⟨_,rfl⟩
 have R15:=e3
 rw[vE3,pE3] at R15
 subst R15
 refine Or.inl ⟨A,?_⟩
 exact bU (sk 35 (congrArg some e1.1) (sk 37 (congrArg some vE3) (aB _))) (by simp only[pE3,vE3,e1.2,fS]<;>rfl) (aJ A A (fun w hm=>gU us (rtsL n n.ss.length) _ _ _ _ w ((fun w hm=>hpu w (hm.holds _ (bX (i:=1) A))) w hm) ((aG 0 A) w hm) hmkF (by omega) (by omega) (fun x hx=>jV hn hx) (by omega)))
 intro vf pf hR
 have e0:=hR 0 (by decide)
 have e3:(fun v' post=>post=[rI9 3 v' (rtsL n n.ss.length)]) (vf 3) (pf 3):=hR 3 (by decide)
 obtain⟨v13,vE3⟩:∃x,vf 3=x:=⟨_,rfl⟩
 obtain⟨p14,pE3⟩:∃x,pf 3=x:=⟨_,rfl⟩
 have R15:=e3
 rw[vE3,pE3] at R15
 subst R15
 have e4:(fun v' post=>post=[rI9 3 v' ((mpS us (rtsL n n.ss.length)))]) (vf 4) (pf 4):=hR 4 (by decide)
 obtain⟨v16,vE4⟩:∃x,vf 4=x:=⟨_,rfl⟩
 obtain⟨p17,pE4⟩:∃x,pf 4=x:=⟨_,rfl⟩
 have R18:=e4
 rw[vE4,pE4] at R18
 subst R18
 have q0:=hR 0 (by decide)
 have q1:=hR 1 (by decide)
 have q2:=hR 2 (by decide)
 refine cE (bO [31,14,9,8,7,6,5,4,3,2,1,0] _ (sk 34 (congrArg some e0.1) (sk 38 (congrArg some vE4) (aB _))) A) (by simp only[pE3,vE3,pE4,vE4,q0.2,q1.2,q2.2,fS]<;>rfl) ?_
 simp only[List.drop_succ_cons,List.drop_zero]
 refine bI (cs':=#[jI m.ins,m.sv,m.av,m.ov]) (i:=3) (off:=0) (us:=[jI m.ins,m.sv,m.av,m.ov]) A A A A A A A (aA A (aA o1m (aA o2m (aA o3m bA)))) A A A (aU 2 A ?_)
 refine aV (cY (fun w hm=>(aG 1 A w hm).one) (fun ho1=>?_))
 refine aZ 6 [3,1,2] A A (by decide) ?_
 refine cB 2 A ?_
 exact bV (rs:=[.cell 4 28,.tmp 5,.tmp 6]) (vs:=[.agg #[jI m.ins,m.sv,m.av,m.ov],v16,.bool true]) (post:=[bigE [bigE pm,rowE 3 1 v16 ((mpS us (rtsL n n.ss.length)).length) (mI (mpS us (rtsL n n.ss.length)))]]) rfl ⟨⟨b3,0,[jI m.ins,m.sv,m.av,m.ov],rfl,rfl,by kernel_rfl,by kernel_rfl,aD 1 rfl 0 rfl⟩,rfl,rfl,trivial⟩ rfl (eJ [0] rfl) ⟨_,m,_,(mpS us (rtsL n n.ss.length)),by rw[hr9];rfl,rfl,hN.imp id (fun h9 w hw=>h9 w (aX hw cL)),fun w hw=>bT (aX hw (dK cL)),⟨o1m,o2m,o3m⟩,ho1,fun r2 e2=>by rw[hr9] at e2;cases e2;subst hre;exact⟨hG,rfl,rfl⟩⟩
 have hnone:=Option.isNone_iff_eq_none.1 (by simpa using h12)
 refine bI (cs':=#[jI m.ins,m.sv,m.av,m.ov]) (i:=3) (off:=0) (us:=[jI m.ins,m.sv,m.av,m.ov]) A A A A A A A (aA A (aA o1m (aA o2m (aA o3m bA)))) A A A (aU 2 A (aC (bD 2 A (aR A (cF ?_)))))
 refine aP A (aF (cs:=[jI m.ins,m.sv,m.av,m.ov]) A A A A A (aD 3 A 0 A)) (dP A (dH (s:=1) A Tryz.underlying26 A) ?_)
 intro g19
 refine bI (cs':=#[jI m.ins,m.sv,m.av,m.ov]) (i:=2) (off:=0) (us:=[jI m.ins,m.sv,m.av,m.ov]) A A A A A A A (aA A (aA o1m (aA o2m (aA o3m bA)))) A A A (aU 2 A ?_)
 refine aV (aL ?_)
 refine cY (fun w hm=>(aG 0 A w hm).one) (fun ho1=>?_)
 refine oS (l':=[rowE 3 1 (.slice (some ⟨g19,0,none⟩) 0 0) (([]:List Int).length) (mI ([]:List Int)),bigE pm,nB9 b3 m,nB9 b2 n,nB9 b1 m]) A (aZ 5 [2,0,1] A A (by decide) ?_)
 refine cB 2 A ?_
 exact bV (rs:=[.cell 4 28,.tmp 5,.tmp 6]) (vs:=[.agg #[jI m.ins,m.sv,m.av,m.ov],.slice (some ⟨g19,0,none⟩) 0 0,.bool false]) (post:=[bigE [bigE pm,rowE 3 1 (.slice (some ⟨g19,0,none⟩) 0 0) (([]:List Int).length) (mI ([]:List Int))]]) rfl ⟨⟨b3,0,[jI m.ins,m.sv,m.av,m.ov],rfl,rfl,by kernel_rfl,by kernel_rfl,aD 1 rfl 0 rfl⟩,rfl,rfl,trivial⟩ rfl (eJ [0] rfl) ⟨_,m,_,([]:List Int),by rw[hnone];rfl,rfl,hN.imp id (fun h9 w hw=>h9 w (aX hw cL)),fun w hw=>bT (aX hw (dK cL)),⟨o1m,o2m,o3m⟩,ho1,fun r e=>by rw[hnone] at e;cases e⟩
structure MSt where
  g:List An
  v:Value
  rs:List CRow
  lv:Value
  ps:List HP
theorem tZ (a:Nt) (w:World):RdsW w (mt0 a).sv 3 (mt0 a).ss.length ((mt0 a).ss.flatMap sqC)∧(∀s∈(mt0 a).ss,RdsW w s.iv 1 s.xs.length (s.xs.map (Value.int .i64)))∧RdsW w (mt0 a).ov 1 (mt0 a).os.length ((mt0 a).os.map (Value.int .i64)):=⟨dN (w0:=w) (l:=[]) w (Mem.refl w),(fun s hs=>by cases hs),dN (w0:=w) (l:=[]) w (Mem.refl w)⟩
theorem nk_rds {w:World}{a b:Nt}(ra:RdsNt w a) (rb_:RdsNt w b) {k:Nat}(hk:k<2):RdsNt w (nk_o a b k):=Gs (p:=RdsNt w) ra rb_ hk
theorem mS (a b:Nt) (w:World) (ra:RdsNt w a) (rb_:RdsNt w b) (hA:NtSm a) (hB:NtSm b) :
   Calls Tryz.prog 20 #[.agg #[.int .i64 a.ins,a.sv,a.av,a.ov],.agg #[.int .i64 b.ins,b.sv,b.av,b.ov]] w (Ret w (fun u_ p_=>(∃(ps:List HP) (m:Nt),u_=.tuple #[m.agg,.bool (mtO a b).isSome]∧p_=[bigE ps]∧(∀w,(bigE ps).holds w→RdsNt w m)∧(m.sv.oneCell'=true∧m.av.oneCell'=true∧m.ov.oneCell'=true)∧MtIs a b m))):=by
 have as1:=hA.s1
 refine bN (N:=109) (args:=[.agg #[jI a.ins,a.sv,a.av,a.ov],.agg #[jI b.ins,b.sv,b.av,b.ov]]) Tryz.func20 A A (cF ?_)
 refine cR A (cN A A) ?_
 intro b1
 refine cR A (cN A A) ?_
 intro b2
 refine cR A (bP (z:=.agg #[jI 0,.slice none 0 0,.slice none 0 0,.slice none 0 0]) A A) ?_
 intro b3
 refine aU 1 A (eP (aP A (aF (cs:=[jI a.ins,a.sv,a.av,a.ov]) A A A A A (aD 2 A 0 A)) (aP A (aF (cs:=[jI b.ins,b.sv,b.av,b.ov]) A A A A A (aD 1 A 0 A)) ?_)))
 refine dA A (aJ A A (fun w hm=>aY (rF a b w (ra.below hm.bel) (rb_.below hm.bel) hA hB))) (bW (fun h4=>?_) (fun h4=>?_))
 have hc:=sP h4
 have ca:=hc.ha.i0
 have cb:=hc.ha.s1
 have cc:=hc.c20
 have mfst:=fT a
 have afst:a.fst=1+a.ins+a.ss.length:=rfl
 refine aU 1 A (aS A (bY (cF (aP A (cQ 0 A A A) (aP A (aN A A A (aH 2 A A)) (aP A (cQ 1 A A A) (aP A (aN A A A (aH 2 A A)) (aP A (bC A Tryz.underlying24 A (aE ra.sq)) ?_))))))))
 refine aP A (dM A A A) (aP A (dQ (cs:=#[jI (a.ins+(a.ss.length:Int)),.slice none 0 0,.slice none 0 0,.slice none 0 0]) A A A) ?_)
 refine cR A (bP (z:=.agg #[jI 0,.slice none 0 0,.slice none 0 0,.slice none 0 0]) A A) ?_
 intro b5
 refine bI (cs':=#[jI (a.ins+(a.ss.length:Int)),.slice none 0 0,.slice none 0 0,.slice none 0 0]) (i:=0) (off:=0) (us:=[jI (a.ins+(a.ss.length:Int)),.slice none 0 0,.slice none 0 0,.slice none 0 0]) A A A A A A A (aA A (aA A (aA A (aA A bA)))) A A A (bR (cF ?_))
 refine jM 26 1 (aU 1 A (eP (aP A (aF (cs:=[jI a.ins,a.sv,a.av,a.ov]) A A A A A (aD 4 A 0 A)) (aP A (aF (cs:=[jI b.ins,b.sv,b.av,b.ov]) A A A A A (aD 3 A 0 A)) ?_))))
 refine dP A (bB (z:=.agg #[jI 0,.slice none 0 0,.slice none 0 0,.slice none 0 0]) (s:=4) (cs:=[jI a.ins,a.sv,a.av,a.ov,jI b.ins,b.sv,b.av,b.ov]) A Tryz.underlying77 A (by decide) A (by kernel_rfl) A) ?_
 intro g7
 refine eC (l':=[rowE 28 4 (.slice (some ⟨g7,0,none⟩) 2 2) (([a,b]).length) (([a,b]).flatMap ntC),rowE 26 1 (.slice none 0 0) 0 ([]),boxE b5 #[jI (a.ins+(a.ss.length:Int)),.slice none 0 0,.slice none 0 0,.slice none 0 0] 28,eB9 b3,nB9 b2 b,nB9 b1 a]) A ?_
 refine aP A (bC A Tryz.underlying77 A (aG 0 A)) (aU 1 A (bE ?_))
 refine eE 6 [5,4,3,1,0,2] A A (by decide) ?_
 refine fE [netP b5 (mt0 a) (.slice none 0 0) ([]),bigE [],rowE 28 4 (.slice (some ⟨g7,0,none⟩) 2 2) (([a,b]).length) (([a,b]).flatMap ntC),rowE 26 1 (.slice none 0 0) (([]:List CRow).length) (([]:List CRow).flatMap crowC),eB9 b3,nB9 b2 b,nB9 b1 a] (fun w hm=>(show Mem _ ([boxE b5 #[jI (mt0 a).ins,(mt0 a).sv,.slice none 0 0,(mt0 a).ov] 28,rS9 67 2 (.slice none 0 0) ([]:List An) anC]++_) w from((((eW w hm).nilRow 67 2)).perm (by exact .trans (.cons _ (.swap _ _ _)) (.swap _ _ _)))).big) ?_
 refine gT (α:=Nat) (β:=MSt) [0,1,2,3,4,5,6,20,31,32] A (fun k q=>[netP b5 (mt0 a) q.v q.g,bigE q.ps,rowE 28 4 (.slice (some ⟨g7,0,none⟩) 2 2) (([a,b]).length) (([a,b]).flatMap ntC),rS9 26 1 q.lv q.rs crowC,eB9 b3,nB9 b2 b,nB9 b1 a]) (fun k q=>[(7,q.lv),(33,jI (k:Int))]) (fun k q=>k≤2∧MitI a b k q.g (q.rs.map CRow.xs)∧(∀w,(bigE q.ps).holds w→RdsAll w q.rs)) (fun k q=>2-k) 0 ⟨[],_,[],_,[]⟩ ⟨by omega,.zero,fun w _=>RdsAll.nil w⟩ (cT A) (dS A) ?_
 intro k q hi8
 obtain⟨hk,hMI,hps⟩:=hi8
 have hrl:=hMI.len
 rw[List.length_map] at hrl
 have hl2:([a,b]).length=2:=rfl
 refine cF ?_
 refine bQ A A A A A A (fun h9=>?_) (fun h9=>?_)
 refine bR (nF A (bY (fM (cF ?_))))
 have hnk:NtOk (([a,b]).getD k nt0)∧(([a,b]).getD k nt0).fst=a.fst:=hc.nk (k:=k) (by omega)
 have hrk:RdsNt w (([a,b]).getD k nt0):=nk_rds ra rb_ (k:=k) (by omega)
 have kcnt:(([a,b]).getD k nt0).cnt=(([a,b]).getD k nt0).fst+(([a,b]).getD k nt0).gs.length:=rfl
 have kfst:(([a,b]).getD k nt0).fst=a.fst:=hnk.2
 have afst:a.fst=1+a.ins+a.ss.length:=rfl
 have mfst:=fT a
 have kgl:(([a,b]).getD k nt0).gs.length≤300:=hnk.1.a1
 have kss:(([a,b]).getD k nt0).ss.length≤12:=hnk.1.s1
 have cc:=hc.c20
 refine aP A (dF 4 A A A A (aG 2 A)) (aP A (eI (us:=[jI ((([a,b]).getD k nt0).ins),(([a,b]).getD k nt0).sv,(([a,b]).getD k nt0).av,(([a,b]).getD k nt0).ov]) A A A A (aG 2 A) (by omega) A (fC ntC 4 (fun _=>A) ([a,b]) nt0 (show k<_ by omega) A)) ?_)
 refine cR A (bP (z:=.agg #[jI 0,.slice none 0 0,.slice none 0 0,.slice none 0 0]) A A) ?_
 intro b10
 refine bI (cs':=#[jI ((([a,b]).getD k nt0).ins),(([a,b]).getD k nt0).sv,(([a,b]).getD k nt0).av,(([a,b]).getD k nt0).ov]) (i:=0) (off:=0) (us:=[jI ((([a,b]).getD k nt0).ins),(([a,b]).getD k nt0).sv,(([a,b]).getD k nt0).av,(([a,b]).getD k nt0).ov]) A A A A A A A (aA A (aA hrk.sq.one (aA hrk.an.one (aA hrk.ou.one bA)))) A A A (bR (cF (aP A (aF (cs:=[jI ((([a,b]).getD k nt0).ins),(([a,b]).getD k nt0).sv,(([a,b]).getD k nt0).av,(([a,b]).getD k nt0).ov]) A A A A A (aD 0 A 0 A)) ?_)))
 refine eB A A A (aJ A A (fun w hm=>uF (([a,b]).getD k nt0) w (hrk.below hm.bel) hnk.1)) ?_
 intro v11 p12 R13
 rw[hnk.2] at R13
 subst R13
 refine aU 1 A (eP (aP A (cQ 2 A A A) (aP A (aN A A A (aH 1 A A)) ?_)))
 refine aP A (bC A Tryz.underlying25 A (fun w hm=>(hrk.below hm.bel).an)) (aU 1 A (bE ?_))
 refine oP (α:=Nat) (β:=List An) (γ:=Value) (δ:=List Int) [0,1,2,3,4,5,6,7,9,10,20,31,32,33,34,40,41] A (fun i g v ps=>[rowE 3 1 v11 ((fillZ (([a,b]).getD k nt0).cnt.toNat ps).length) (mI (fillZ (([a,b]).getD k nt0).cnt.toNat ps)),boxE b10 #[jI ((([a,b]).getD k nt0).ins),(([a,b]).getD k nt0).sv,(([a,b]).getD k nt0).av,(([a,b]).getD k nt0).ov] 28,netP b5 (mt0 a) v g,bigE q.ps,rowE 28 4 (.slice (some ⟨g7,0,none⟩) 2 2) (([a,b]).length) (([a,b]).flatMap ntC),rS9 26 1 q.lv q.rs crowC,eB9 b3,nB9 b2 b,nB9 b1 a]) (fun i g v ps=>[(42,jI (i:Int))]) (fun i g v ps=>i≤(([a,b]).getD k nt0).gs.length∧impO a.fst ((([a,b]).getD k nt0).gs.take i) q.g (lfO a.fst)=some (g,ps)) (fun i g v ps=>(([a,b]).getD k nt0).gs.length-i) 0 q.g q.v (lfO a.fst) ⟨Nat.zero_le _,A⟩ (cT A) (dS A) ?_
 intro i g v ps hi14
 obtain⟨hi,hIm⟩:=hi14
 obtain⟨hgk,hIM,hpl,hex⟩:=hMI.run hc (show k<2 by omega) hi hIm
 have hpl:ps.length=((([a,b]).getD k nt0).fst+(i:Int)).toNat:=hpl
 have hgl:g.length≤300:=hgk.a1
 have hfl:=gL (C:=(([a,b]).getD k nt0).cnt.toNat) (vs:=ps) (by omega)
 refine cF ?_
 refine bQ A A A A A A (fun h15=>?_) (fun h15=>?_)
 refine bR (nF A (bY (fM (aC (bZ 1 A ?_)))))
 refine aP A (dF 2 A A A A (fun w hm=>(hrk.below hm.bel).an)) (aP A (eI (us:=[jI ((((([a,b]).getD k nt0).gs).getD i an0).a),jI ((((([a,b]).getD k nt0).gs).getD i an0).b)]) A A A A (fun w hm=>(hrk.below hm.bel).an) (by omega) A (fC anC 2 (fun _=>A) ((([a,b]).getD k nt0).gs) an0 (show i<_ by omega) A)) ?_)
 refine cR A (bP (z:=.agg #[jI 0,jI 0]) A A) ?_
 intro b16
 refine aM 1 A (bI (cs':=#[jI ((((([a,b]).getD k nt0).gs).getD i an0).a),jI ((((([a,b]).getD k nt0).gs).getD i an0).b)]) (i:=0) (off:=0) (us:=[jI ((((([a,b]).getD k nt0).gs).getD i an0).a),jI ((((([a,b]).getD k nt0).gs).getD i an0).b)]) A A A A A A A (aA A (aA A bA)) A A A ?_)
 refine bR (aC ?_)
 have hani:LtOk ((([a,b]).getD k nt0).gs.getD i an0).a ((([a,b]).getD k nt0).fst+(i:Int))∧LtOk ((([a,b]).getD k nt0).gs.getD i an0).b ((([a,b]).getD k nt0).fst+(i:Int)):=hnk.1.an i (by omega)
 have hia:=Gt hIM (c:=(([a,b]).getD k nt0).fst+i) (by omega) hani.1
 have hib:=Gt hIM (c:=(([a,b]).getD k nt0).fst+i) (by omega) hani.2
 have hia2:=hani.1
 have hib2:=hani.2
 unfold LtOk at hia2 hib2
 refine eE 10 [9,8,7,6,5,4,2,1,0,3] A A (by decide) ?_
 refine gG (l:=[boxE b16 #[jI ((((([a,b]).getD k nt0).gs).getD i an0).a),jI ((((([a,b]).getD k nt0).gs).getD i an0).b)] 67,rowE 3 1 v11 ((fillZ (([a,b]).getD k nt0).cnt.toNat ps).length) (mI (fillZ (([a,b]).getD k nt0).cnt.toNat ps)),boxE b10 #[jI ((([a,b]).getD k nt0).ins),(([a,b]).getD k nt0).sv,(([a,b]).getD k nt0).av,(([a,b]).getD k nt0).ov] 28,bigE q.ps,rowE 28 4 (.slice (some ⟨g7,0,none⟩) 2 2) (([a,b]).length) (([a,b]).flatMap ntC),rS9 26 1 q.lv q.rs crowC,eB9 b3,nB9 b2 b,nB9 b1 a]) A 9 [0,1,2,3,4,5,6,7,8] (List.take 9 _) (List.drop 9 _) [[],[],[1],[0,2],[],[],[5],[4,6],[3,7]] [47,48,49,50,51,52,53,54,55] (fun i_ vs_ v_ p_=>match i_ with|0=>v_=v11∧p_=[]|1=>v_=.pointer (some ⟨b16,0+0,none⟩)∧p_=[]|2=>v_=jI ((((([a,b]).getD k nt0).gs).getD i an0).a)∧p_=[]|3=>v_=jI (mpL ps ((((([a,b]).getD k nt0).gs).getD i an0).a))∧p_=[]|4=>v_=v11∧p_=[]|5=>v_=.pointer (some ⟨b16,0+1,none⟩)∧p_=[]|6=>v_=jI ((((([a,b]).getD k nt0).gs).getD i an0).b)∧p_=[]|7=>v_=jI (mpL ps ((((([a,b]).getD k nt0).gs).getD i an0).b))∧p_=[]|8=>(∃pm_,p_=[pm_]∧(fun u_ p_=>∃z v_ g_,u_=jI z∧p_=netP b5 (mt0 a) v_ g_∧OpR (mt0 a) g g_ (andO (mt0 a).fst g (mpL ps ((((([a,b]).getD k nt0).gs).getD i an0).a)) (mpL ps ((((([a,b]).getD k nt0).gs).getD i an0).b))) z) v_ pm_)|_=>True) [[],[],[1],[0,2],[],[],[5],[4,6],[3,7]] [none,none,none,none,none,none,none,none,some 10] [netP b5 (mt0 a) v g] [0,1,2,3,4,5,6,7,8] 10 (List.take_append_drop 9 _).symm (by kernel_rfl) (by kernel_rfl) (by kernel_rfl) A A ?_ ?_
 refine⟨?_,?_,?_,?_,?_,?_,?_,?_,?_,trivial⟩
 intro vf pf hmu hR
 refine fG [] [] A (bH (aI [10] A) ?_)
 exact aT (aK A)
 intro vf pf hmu hR
 refine fG [] [] A (bH (aI [12] A) ?_)
 exact aT (cQ 0 A A A)
 intro vf pf hmu hR
 have e1:=hR 1 (by decide)
 refine fG [1] [1] A (aW (sk 48 (congrArg some e1.1) (aB _)) (List.sublist_append_right _ _) ?_)
 exact aT (aN A A A (aH 0 A A))
 intro vf pf hmu hR
 have e0:=hR 0 (by decide)
 have e2:=hR 2 (by decide)
 refine fG [0,2] [0,2] A (aW (sk 47 (congrArg some e0.1) (sk 49 (congrArg some e2.1) (aB _))) (List.sublist_append_right _ _) ?_)
 exact(aJ rfl rfl (fun w hm=>aY (show Calls _ _ _ w (Ans w (jI (mpL ps ((((([a,b]).getD k nt0).gs).getD i an0).a)))) by rw[←Ag (C:=(([a,b]).getD k nt0).cnt.toNat) (ps:=ps) (l:=((((([a,b]).getD k nt0).gs).getD i an0).a)) (by omega)];exact mZ (fillZ (([a,b]).getD k nt0).cnt.toNat ps) ((((([a,b]).getD k nt0).gs).getD i an0).a) _ w ((aG 1 rfl) w hm) (by omega) (by rw[gL (by omega)];omega) (by rw[gL (by omega)];omega) (by rw[jT (by omega)];omega))))
 intro vf pf hmu hR
 refine fG [] [] A (bH (aI [10] A) ?_)
 exact aT (aK A)
 intro vf pf hmu hR
 refine fG [] [] A (bH (aI [12] A) ?_)
 exact aT (cQ 1 A A A)
 intro vf pf hmu hR
 have e5:=hR 5 (by decide)
 refine fG [5] [5] A (aW (sk 52 (congrArg some e5.1) (aB _)) (List.sublist_append_right _ _) ?_)
 exact aT (aN A A A (aH 0 A A))
 intro vf pf hmu hR
 have e4:=hR 4 (by decide)
 have e6:=hR 6 (by decide)
 refine fG [4,6] [4,6] A (aW (sk 51 (congrArg some e4.1) (sk 53 (congrArg some e6.1) (aB _))) (List.sublist_append_right _ _) ?_)
 exact(aJ rfl rfl (fun w hm=>aY (show Calls _ _ _ w (Ans w (jI (mpL ps ((((([a,b]).getD k nt0).gs).getD i an0).b)))) by rw[←Ag (C:=(([a,b]).getD k nt0).cnt.toNat) (ps:=ps) (l:=((((([a,b]).getD k nt0).gs).getD i an0).b)) (by omega)];exact mZ (fillZ (([a,b]).getD k nt0).cnt.toNat ps) ((((([a,b]).getD k nt0).gs).getD i an0).b) _ w ((aG 1 rfl) w hm) (by omega) (by rw[gL (by omega)];omega) (by rw[gL (by omega)];omega) (by rw[jT (by omega)];omega))))
 intro vf pf hmu hR
 have e3:=hR 3 (by decide)
 have e7:=hR 7 (by decide)
 refine Or.inl ⟨A,?_⟩
 show RunM _ _ _ (pf 10) (([3,7]:List Nat).flatMap pf++_) (envOf _ vf [3,7]++_) _ _
 rw[hmu]
 exact cV (sk 6 A (sk 50 (congrArg some e3.1) (sk 54 (congrArg some e7.1) (aB _)))) (by simp only[e3.2,e7.2,fS]<;>rfl) (eY (R:=(fun u_ p_=>∃z v_ g_,u_=jI z∧p_=netP b5 (mt0 a) v_ g_∧OpR (mt0 a) g g_ (andO (mt0 a).fst g (mpL ps ((((([a,b]).getD k nt0).gs).getD i an0).a)) (mpL ps ((((([a,b]).getD k nt0).gs).getD i an0).b))) z)) A A (fun L w hX hm=>lB b5 (mt0 a) v g (mpL ps ((((([a,b]).getD k nt0).gs).getD i an0).a)) (mpL ps ((((([a,b]).getD k nt0).gs).getD i an0).b)) _ _ _ hm hgk hia.2 hib.2 (fun w hm=>tZ a w) ⟨A,A⟩))
 intro vf pf hmu hR
 have e8:(∃pm_,(pf 8)=[pm_]∧(fun u_ p_=>∃z v_ g_,u_=jI z∧p_=netP b5 (mt0 a) v_ g_∧OpR (mt0 a) g g_ (andO (mt0 a).fst g (mpL ps ((((([a,b]).getD k nt0).gs).getD i an0).a)) (mpL ps ((((([a,b]).getD k nt0).gs).getD i an0).b))) z) (vf 8) pm_):=hR 8 (by decide)
 obtain⟨p18,pE8,R19⟩:=e8
 obtain⟨v17,vE8⟩:∃x,vf 8=x:=⟨_,rfl⟩
 rw[vE8] at R19
 obtain⟨z19,v19,g19,rfl,rfl,o19⟩:=R19
 have l19:g19.length≤300:=o19.ex.ok.a1
 have r19:z19<0∨LtOk z19 ((mt0 a).fst+g19.length):=by rcases o19.res with q9|q9;exact .inr q9.2;exact .inl q9.2
 unfold LtOk at r19
 have q0:=hR 0 (by decide)
 have q1:=hR 1 (by decide)
 have q2:=hR 2 (by decide)
 have q3:=hR 3 (by decide)
 have q4:=hR 4 (by decide)
 have q5:=hR 5 (by decide)
 have q6:=hR 6 (by decide)
 have q7:=hR 7 (by decide)
 refine cE (bO [43,42,41,40,34,33,32,31,20,12,11,10,9,7,6,5,4,3,2,1,0] _ (sk 55 (congrArg some vE8) (aB _)) A) (by simp only[pE8,vE8,q0.2,q1.2,q2.2,q3.2,q4.2,q5.2,q6.2,q7.2,fS]<;>rfl) ?_
 simp only[List.drop_succ_cons,List.drop_zero]
 refine aU 1 A (aC (aC (bZ 1 A ?_)))
 refine bQ A A A A A A (fun h20=>?_) (fun h20=>?_)
 refine bR (aR A (cF (aP A (dQ (cs:=#[jI 0,.slice none 0 0,.slice none 0 0,.slice none 0 0]) A A A) ?_)))
 refine bI (cs':=#[jI 0,.slice none 0 0,.slice none 0 0,.slice none 0 0]) (i:=7) (off:=0) (us:=[jI 0,.slice none 0 0,.slice none 0 0,.slice none 0 0]) A A A A A A A (aA A (aA A (aA A (aA A bA)))) A A A (aU 1 A ?_)
 refine aV (aL ?_)
 refine aQ (fL ?_)
 refine aQ (aL ?_)
 refine aQ (fL ?_)
 refine aQ (aL ?_)
 have hno:mtO a b=none:=hMI.fail hc (show k<2 by omega) (i:=i+1) (by rw[mA (by omega) hIm,←fT,o19.neg (by omega)];rfl)
 refine aZ 10 [7] A A (by decide) ?_
 refine cZ [bigE [],eB9 b3] eW ?_
 exact bV (rs:=[.cell 4 28,.tmp 5]) (vs:=[.agg #[jI 0,.slice none 0 0,.slice none 0 0,.slice none 0 0],.bool false]) (post:=[bigE []]) rfl ⟨⟨b3,0,[jI 0,.slice none 0 0,.slice none 0 0,.slice none 0 0],rfl,rfl,by kernel_rfl,by kernel_rfl,aD 1 rfl 0 rfl⟩,rfl,trivial⟩ rfl (eJ [0] rfl) ⟨_,nt0,by rw[hno];rfl,rfl,fun w _=>⟨dN (w0:=w) (l:=[]) w (Mem.refl w),(fun s hs=>by cases hs),dN (w0:=w) (l:=[]) w (Mem.refl w),dN (w0:=w) (l:=[]) w (Mem.refl w)⟩,⟨rfl,rfl,rfl⟩,.none hno⟩
 refine bR (aS A (bY (bZ 1 A (aP A (aF (cs:=[jI ((([a,b]).getD k nt0).ins),(([a,b]).getD k nt0).sv,(([a,b]).getD k nt0).av,(([a,b]).getD k nt0).ov]) A A A A A (aD 3 A 0 A)) ?_))))
 refine dA A (aJ A A (fun w hm=>aY (gH (([a,b]).getD k nt0) w (hrk.below hm.bel) hnk.1))) (aM 1 A (aP A (dM A A A) (aM 1 A (aP A (dF 1 A A A A (aG 2 A)) ?_))))
 refine eN (i:=2) (n':=((fillZ (([a,b]).getD k nt0).cnt.toNat ps).set ((((([a,b]).getD k nt0).fst)+(i:Int)).toNat) z19).length) (xs':=(((fillZ (([a,b]).getD k nt0).cnt.toNat ps).set ((((([a,b]).getD k nt0).fst)+(i:Int)).toNat) z19).map (Value.int .i64))) A A A A A A A A (by first|omega|(simp only[List.length_set];omega)) List.length_set.symm (fB _ _ _) A (dB (cK (bJ (aP A (dM A A A) (dJ 1 A ?_)))))
 refine oS (l':=[netP b5 (mt0 a) v19 g19,boxE b16 #[jI ((((([a,b]).getD k nt0).gs).getD i an0).a),jI ((((([a,b]).getD k nt0).gs).getD i an0).b)] 67,rowE 3 1 v11 ((fillZ (([a,b]).getD k nt0).cnt.toNat (ps++[z19])).length) (mI (fillZ (([a,b]).getD k nt0).cnt.toNat (ps++[z19]))),boxE b10 #[jI ((([a,b]).getD k nt0).ins),(([a,b]).getD k nt0).sv,(([a,b]).getD k nt0).av,(([a,b]).getD k nt0).ov] 28,bigE q.ps,rowE 28 4 (.slice (some ⟨g7,0,none⟩) 2 2) (([a,b]).length) (([a,b]).flatMap ntC),rS9 26 1 q.lv q.rs crowC,eB9 b3,nB9 b2 b,nB9 b1 a]) (by rw[iK (by omega) (by omega)]) (aZ 10 [9,8,7,6,5,4,0,3,2] A A (by decide) ?_)
 exact eD (i+1) g19 v19 (ps++[z19]) ⟨by omega,by rw[mA (by omega) hIm,←fT,(o19.pos (by omega)).1];rfl⟩ (by omega) (cT rfl) (dS rfl)
 refine bR (nG A ?_)
 refine bM (dI ?_)
 refine aO (bF (bJ ?_))
 have hieq:i=(([a,b]).getD k nt0).gs.length:=by omega
 have hfull:impO a.fst (([a,b]).getD k nt0).gs q.g (lfO a.fst)=some (g,ps):=by rw[←hIm,List.take_of_length_le (by omega)]
 have hpc:(ps.length:Int)=(([a,b]).getD k nt0).cnt:=by omega
 have hmk:=hIM.map hpc
 have hrt:(rtsL (([a,b]).getD k nt0) (([a,b]).getD k nt0).ss.length).length≤_:=gM hnk.1 (([a,b]).getD k nt0).ss.length (Nat.le_refl _)
 refine eC (l':=[rI9 3 v11 ps,boxE b10 #[jI ((([a,b]).getD k nt0).ins),(([a,b]).getD k nt0).sv,(([a,b]).getD k nt0).av,(([a,b]).getD k nt0).ov] 28,netP b5 (mt0 a) v g,bigE q.ps,rowE 28 4 (.slice (some ⟨g7,0,none⟩) 2 2) (([a,b]).length) (([a,b]).flatMap ntC),rS9 26 1 q.lv q.rs crowC,eB9 b3,nB9 b2 b,nB9 b1 a]) (by rw[oD (C:=(([a,b]).getD k nt0).cnt.toNat) (vs:=ps) (by omega)]) ?_
 refine aM 2 A (aP A (aF (cs:=[jI ((([a,b]).getD k nt0).ins),(([a,b]).getD k nt0).sv,(([a,b]).getD k nt0).av,(([a,b]).getD k nt0).ov]) A A A A A (aD 1 A 0 A)) ?_)
 refine eB A A A (aJ A A (fun w hm=>qM (([a,b]).getD k nt0) w (hrk.below hm.bel) hnk.1.sm)) ?_
 intro v21 p22 R23
 subst R23
 refine eB A A A (aJ A A (fun w hm=>wA ps (rtsL (([a,b]).getD k nt0) (([a,b]).getD k nt0).ss.length) _ _ _ _ w ((aG 1 A) w hm) ((aG 0 A) w hm) hmk (by omega) (by omega) (fun x hx=>jV hnk.1 hx) (by omega))) ?_
 intro v24 p25 R26
 subst R26
 refine dP A (gS A Tryz.underlying33 (by kernel_rfl) A (fun w hm=>(aG 0 A w hm).one)) ?_
 intro g27
 refine dZ (i:=1) A (fun ho28=>?_)
 refine cW (i:=8) (z:=.slice none 0 0) (bytes:=24) A A A A Tryz.underlying33 (by kernel_rfl) A A A A (aG 0 A) (aA ho28 bA) (by first|omega|(simp only[List.length_append,List.length_cons,List.length_nil];omega)) (cH q.rs [(CRow.mk v24 (mpS ps (rtsL (([a,b]).getD k nt0) (([a,b]).getD k nt0).ss.length)))]) (dY crowC q.rs (CRow.mk v24 (mpS ps (rtsL (([a,b]).getD k nt0) (([a,b]).getD k nt0).ss.length))) _ A) (fun _=>A) ?_
 intro v29
 refine dJ 1 A (cK (bJ (aP A (dM A A A) (dJ 1 A ?_))))
 refine aZ 12 [11,10,9,8,7,5,4,1,6] A A (by decide) ?_
 refine cB 2 A ?_
 refine aZ 8 [7,6,5,4,3,0,2] A A (by decide) ?_
 exact cG (k+1) ⟨g,v,q.rs++[(CRow.mk v24 (mpS ps (rtsL (([a,b]).getD k nt0) (([a,b]).getD k nt0).ss.length)))],v29,[bigE q.ps,rowE 3 1 v24 ((mpS ps (rtsL (([a,b]).getD k nt0) (([a,b]).getD k nt0).ss.length)).length) (mI (mpS ps (rtsL (([a,b]).getD k nt0) (([a,b]).getD k nt0).ss.length)))]⟩ ⟨by omega,by dsimp only;rw[List.map_append];exact hMI.next (by omega) hfull,fun w hw=>RdsAll.cons (u:=CRow.mk v24 (mpS ps (rtsL (([a,b]).getD k nt0) (([a,b]).getD k nt0).ss.length))) (hps w (aX hw cL)) (bT (aX hw (dK cL))) (fun q hq=>(List.mem_append.1 hq).elim .inr (fun h=>.inl (List.mem_singleton.1 h)))⟩ (by omega) (cT rfl) (dS rfl)
 refine bR (nG A ?_)
 refine bM (dI ?_)
 refine aO (bF (bD 1 A (eP ?_)))
 have hk2:k=2:=by omega
 rw[hk2] at hMI
 have hJ:=hMI.join hc
 have hJl:=hJ.len
 have hJr:=hJ.rts
 have hrt:=gM hc.ha a.ss.length (Nat.le_refl _)
 have mfst:=fT a
 have afst:a.fst=1+a.ins+a.ss.length:=rfl
 have cc:=hc.c20
 refine aM 1 A (aP A (dF 1 A A A A (aG 3 A)) ?_)
 refine aP A (bG (u:=(q.rs.getD 0 crow0).v) A A A (aG 3 A) (dG crowC (fun r=>r.v) (fun _=>A) q.rs crow0 (show 0<_ by omega))) (aP A (bC A Tryz.underlying26 A (fun w hm=>(hps w (hm.holds _ (bX (i:=1) A))).at (k:=0) (by omega))) ?_)
 refine aU 1 A (bE ?_)
 refine oP (α:=Nat) (β:=List An) (γ:=Value) (δ:=Int) [0,1,2,3,4,5,6,7,20,31,32,33,34,78] A (fun i g v sv=>[netP b5 (mt0 a) v g,bigE q.ps,rowE 28 4 (.slice (some ⟨g7,0,none⟩) 2 2) (([a,b]).length) (([a,b]).flatMap ntC),rS9 26 1 q.lv q.rs crowC,eB9 b3,nB9 b2 b,nB9 b1 a]) (fun i g v sv=>[(14,jI sv),(79,jI (i:Int))]) (fun i g v sv=>i≤(q.rs.getD 0 crow0).xs.length∧jnO a.fst (((q.rs.getD 0 crow0).xs.zip (q.rs.getD 1 crow0).xs).take i) q.g 0=some (g,sv)) (fun i g v sv=>(q.rs.getD 0 crow0).xs.length-i) 0 q.g q.v 0 ⟨Nat.zero_le _,A⟩ (cT A) (dS A) ?_
 intro i g v sv hi30
 obtain⟨hi,hjn⟩:=hi30
 obtain⟨hgk,hex,hsv⟩:=hJ.run hi hjn
 have hgl:g.length≤300:=hgk.a1
 refine cF ?_
 refine bQ A A A A A A (fun h31=>?_) (fun h31=>?_)
 refine bR (nF A (bY (fM (cF (dJ 2 A ?_)))))
 refine bF (aC ?_)
 have hat:=hJ.at (i:=i) (by omega) hex
 refine gG (l:=[bigE q.ps,rowE 28 4 (.slice (some ⟨g7,0,none⟩) 2 2) (([a,b]).length) (([a,b]).flatMap ntC),rS9 26 1 q.lv q.rs crowC,eB9 b3,nB9 b2 b,nB9 b1 a]) A 13 [0,1,2,3,4,5,6,7,8,9,10,11,12] (List.take 13 _) (List.drop 13 _) [[],[0],[1],[],[2,3],[4],[],[6],[7],[],[8,9],[10],[5,11]] [82,83,84,85,86,87,88,89,90,91,92,93,94] (fun i_ vs_ v_ p_=>match i_ with|0=>v_=q.lv∧p_=[]|1=>v_=elP q.lv ((0:Int).toNat*1)∧p_=[]|2=>v_=(q.rs.getD 0 crow0).v∧p_=[]|3=>v_=jI (i:Int)∧p_=[]|4=>v_=elP ((q.rs.getD 0 crow0).v) ((i:Int).toNat*1)∧p_=[]|5=>v_=jI (((q.rs.getD 0 crow0).xs).getD i 0)∧p_=[]|6=>v_=q.lv∧p_=[]|7=>v_=elP q.lv ((1:Int).toNat*1)∧p_=[]|8=>v_=(q.rs.getD 1 crow0).v∧p_=[]|9=>v_=jI (i:Int)∧p_=[]|10=>v_=elP ((q.rs.getD 1 crow0).v) ((i:Int).toNat*1)∧p_=[]|11=>v_=jI (((q.rs.getD 1 crow0).xs).getD i 0)∧p_=[]|12=>(∃pm_,p_=[pm_]∧(fun u_ p_=>∃z v_ g_,u_=jI z∧p_=netP b5 (mt0 a) v_ g_∧OpR (mt0 a) g g_ (xorO (mt0 a).fst g (((q.rs.getD 0 crow0).xs).getD i 0) (((q.rs.getD 1 crow0).xs).getD i 0)) z) v_ pm_)|_=>True) [[],[0],[1],[],[2,3],[4],[],[6],[7],[],[8,9],[10],[5,11]] [none,none,none,none,none,none,none,none,none,none,none,none,some 14] [netP b5 (mt0 a) v g] [0,1,2,3,4,5,6,7,8,9,10,11,12] 14 (List.take_append_drop 13 _).symm (by kernel_rfl) (by kernel_rfl) (by kernel_rfl) A A ?_ ?_
 refine⟨?_,?_,?_,?_,?_,?_,?_,?_,?_,?_,?_,?_,?_,trivial⟩
 intro vf pf hmu hR
 refine fG [] [] A (bH (aI [7] A) ?_)
 exact aT (aK A)
 intro vf pf hmu hR
 have e0:=hR 0 (by decide)
 refine fG [0] [0] A (aW (sk 82 (congrArg some e0.1) (aB _)) (List.sublist_append_right _ _) ?_)
 exact aT (dF 1 A A A A (aG 2 A))
 intro vf pf hmu hR
 have e1:=hR 1 (by decide)
 refine fG [1] [1] A (aW (sk 83 (congrArg some e1.1) (aB _)) (List.sublist_append_right _ _) ?_)
 exact aT (bG (u:=(q.rs.getD 0 crow0).v) A A A (aG 2 A) (dG crowC (fun r=>r.v) (fun _=>A) q.rs crow0 (show 0<_ by omega)))
 intro vf pf hmu hR
 refine fG [] [] A (bH (aI [15] A) ?_)
 exact aT (aK A)
 intro vf pf hmu hR
 have e2:=hR 2 (by decide)
 have e3:=hR 3 (by decide)
 refine fG [2,3] [2,3] A (aW (sk 84 (congrArg some e2.1) (sk 85 (congrArg some e3.1) (aB _))) (List.sublist_append_right _ _) ?_)
 exact aT (dF 1 A A A A (fun w hm=>(hps w (hm.holds _ (bX (i:=0) A))).at (k:=0) (by omega)))
 intro vf pf hmu hR
 have e4:=hR 4 (by decide)
 refine fG [4] [4] A (aW (sk 86 (congrArg some e4.1) (aB _)) (List.sublist_append_right _ _) ?_)
 exact aT (bG (u:=jI (((q.rs.getD 0 crow0).xs).getD i 0)) A A A (fun w hm=>(hps w (hm.holds _ (bX (i:=0) A))).at (k:=0) (by omega)) (eS (show _<((q.rs.getD 0 crow0).xs).length by omega)))
 intro vf pf hmu hR
 refine fG [] [] A (bH (aI [7] A) ?_)
 exact aT (aK A)
 intro vf pf hmu hR
 have e6:=hR 6 (by decide)
 refine fG [6] [6] A (aW (sk 88 (congrArg some e6.1) (aB _)) (List.sublist_append_right _ _) ?_)
 exact aT (dF 1 A A A A (aG 2 A))
 intro vf pf hmu hR
 have e7:=hR 7 (by decide)
 refine fG [7] [7] A (aW (sk 89 (congrArg some e7.1) (aB _)) (List.sublist_append_right _ _) ?_)
 exact aT (bG (u:=(q.rs.getD 1 crow0).v) A A A (aG 2 A) (dG crowC (fun r=>r.v) (fun _=>A) q.rs crow0 (show 1<_ by omega)))
 intro vf pf hmu hR
 refine fG [] [] A (bH (aI [15] A) ?_)
 exact aT (aK A)
 intro vf pf hmu hR
 have e8:=hR 8 (by decide)
 have e9:=hR 9 (by decide)
 refine fG [8,9] [8,9] A (aW (sk 90 (congrArg some e8.1) (sk 91 (congrArg some e9.1) (aB _))) (List.sublist_append_right _ _) ?_)
 exact aT (dF 1 A A A A (fun w hm=>(hps w (hm.holds _ (bX (i:=0) A))).at (k:=1) (by omega)))
 intro vf pf hmu hR
 have e10:=hR 10 (by decide)
 refine fG [10] [10] A (aW (sk 92 (congrArg some e10.1) (aB _)) (List.sublist_append_right _ _) ?_)
 exact aT (bG (u:=jI (((q.rs.getD 1 crow0).xs).getD i 0)) A A A (fun w hm=>(hps w (hm.holds _ (bX (i:=0) A))).at (k:=1) (by omega)) (eS (show _<((q.rs.getD 1 crow0).xs).length by omega)))
 intro vf pf hmu hR
 have e5:=hR 5 (by decide)
 have e11:=hR 11 (by decide)
 refine Or.inl ⟨A,?_⟩
 show RunM _ _ _ (pf 14) (([5,11]:List Nat).flatMap pf++_) (envOf _ vf [5,11]++_) _ _
 rw[hmu]
 exact cV (sk 6 A (sk 87 (congrArg some e5.1) (sk 93 (congrArg some e11.1) (aB _)))) (by simp only[e5.2,e11.2,fS]<;>rfl) (eY (R:=(fun u_ p_=>∃z v_ g_,u_=jI z∧p_=netP b5 (mt0 a) v_ g_∧OpR (mt0 a) g g_ (xorO (mt0 a).fst g (((q.rs.getD 0 crow0).xs).getD i 0) (((q.rs.getD 1 crow0).xs).getD i 0)) z)) A A (fun L w hX hm=>xG b5 (mt0 a) v g (((q.rs.getD 0 crow0).xs).getD i 0) (((q.rs.getD 1 crow0).xs).getD i 0) _ _ _ hm hgk hat.1 hat.2 (fun w hm=>tZ a w) ⟨A,A⟩))
 intro vf pf hmu hR
 have e12:(∃pm_,(pf 12)=[pm_]∧(fun u_ p_=>∃z v_ g_,u_=jI z∧p_=netP b5 (mt0 a) v_ g_∧OpR (mt0 a) g g_ (xorO (mt0 a).fst g (((q.rs.getD 0 crow0).xs).getD i 0) (((q.rs.getD 1 crow0).xs).getD i 0)) z) (vf 12) pm_):=hR 12 (by decide)
 obtain⟨p33,pE12,R34⟩:=e12
 obtain⟨v32,vE12⟩:∃x,vf 12=x:=⟨_,rfl⟩
 rw[vE12] at R34
 obtain⟨z34,v34,g34,rfl,rfl,o34⟩:=R34
 have l34:g34.length≤300:=o34.ex.ok.a1
 have r34:z34<0∨LtOk z34 ((mt0 a).fst+g34.length):=by rcases o34.res with q9|q9;exact .inr q9.2;exact .inl q9.2
 unfold LtOk at r34
 have q0:=hR 0 (by decide)
 have q1:=hR 1 (by decide)
 have q2:=hR 2 (by decide)
 have q3:=hR 3 (by decide)
 have q4:=hR 4 (by decide)
 have q5:=hR 5 (by decide)
 have q6:=hR 6 (by decide)
 have q7:=hR 7 (by decide)
 have q8:=hR 8 (by decide)
 have q9:=hR 9 (by decide)
 have q10:=hR 10 (by decide)
 have q11:=hR 11 (by decide)
 refine cE (bO [80,79,78,34,33,32,31,20,15,14,7,6,5,4,3,2,1,0] _ (sk 94 (congrArg some vE12) (aB _)) A) (by simp only[pE12,vE12,q0.2,q1.2,q2.2,q3.2,q4.2,q5.2,q6.2,q7.2,q8.2,q9.2,q10.2,q11.2,fS]<;>rfl) ?_
 simp only[List.drop_succ_cons,List.drop_zero]
 refine aU 1 A (aC (aC (bZ 1 A ?_)))
 refine bQ A A A A A A (fun h35=>?_) (fun h35=>?_)
 refine bR (aR A (cF (aP A (dQ (cs:=#[jI 0,.slice none 0 0,.slice none 0 0,.slice none 0 0]) A A A) ?_)))
 refine bI (cs':=#[jI 0,.slice none 0 0,.slice none 0 0,.slice none 0 0]) (i:=4) (off:=0) (us:=[jI 0,.slice none 0 0,.slice none 0 0,.slice none 0 0]) A A A A A A A (aA A (aA A (aA A (aA A bA)))) A A A (aU 1 A ?_)
 refine aV (aL ?_)
 refine aQ (fL ?_)
 refine aQ (aL ?_)
 have hno:mtO a b=none:=hJ.fail (i:=i) (by omega) (by rw[hJ.step (by omega) hjn,←fT,o34.neg (by omega)];rfl)
 refine aZ 7 [4] A A (by decide) ?_
 refine cZ [bigE [],eB9 b3] eW ?_
 exact bV (rs:=[.cell 4 28,.tmp 5]) (vs:=[.agg #[jI 0,.slice none 0 0,.slice none 0 0,.slice none 0 0],.bool false]) (post:=[bigE []]) rfl ⟨⟨b3,0,[jI 0,.slice none 0 0,.slice none 0 0,.slice none 0 0],rfl,rfl,by kernel_rfl,by kernel_rfl,aD 1 rfl 0 rfl⟩,rfl,trivial⟩ rfl (eJ [0] rfl) ⟨_,nt0,by rw[hno];rfl,rfl,fun w _=>⟨dN (w0:=w) (l:=[]) w (Mem.refl w),(fun s hs=>by cases hs),dN (w0:=w) (l:=[]) w (Mem.refl w),dN (w0:=w) (l:=[]) w (Mem.refl w)⟩,⟨rfl,rfl,rfl⟩,.none hno⟩
 refine bR (aS A (bY (aC (bZ 2 A ?_))))
 refine gK (R:=(fun u_ p_=>∃z v_ g_,u_=jI z∧p_=netP b5 (mt0 a) v_ g_∧OpR (mt0 a) g34 g_ (orO (mt0 a).fst g34 sv z34) z)) 0 A A A A A (fun L w hX hm=>rJ b5 (mt0 a) v34 g34 sv z34 _ _ _ hm o34.ex.ok (o34.ex.lit hsv) (o34.pos (by omega)).2 (fun w hm=>tZ a w) ⟨A,A⟩) ?_
 intro v36 p37 R38
 obtain⟨z38,v38,g38,rfl,rfl,o38⟩:=R38
 have l38:g38.length≤300:=o38.ex.ok.a1
 have r38:z38<0∨LtOk z38 ((mt0 a).fst+g38.length):=by rcases o38.res with q9|q9;exact .inr q9.2;exact .inl q9.2
 unfold LtOk at r38
 refine eC (l':=[netP b5 (mt0 a) v38 g38,bigE q.ps,rowE 28 4 (.slice (some ⟨g7,0,none⟩) 2 2) (([a,b]).length) (([a,b]).flatMap ntC),rS9 26 1 q.lv q.rs crowC,eB9 b3,nB9 b2 b,nB9 b1 a]) A ?_
 refine aU 1 A (aC (bZ 1 A ?_))
 refine bQ A A A A A A (fun h39=>?_) (fun h39=>?_)
 refine bR (aR A (cF (aP A (dQ (cs:=#[jI 0,.slice none 0 0,.slice none 0 0,.slice none 0 0]) A A A) ?_)))
 refine bI (cs':=#[jI 0,.slice none 0 0,.slice none 0 0,.slice none 0 0]) (i:=4) (off:=0) (us:=[jI 0,.slice none 0 0,.slice none 0 0,.slice none 0 0]) A A A A A A A (aA A (aA A (aA A (aA A bA)))) A A A (aU 1 A ?_)
 refine aV (aQ ?_)
 refine fL ?_
 refine aQ (aL ?_)
 have hno:mtO a b=none:=hJ.fail (i:=i) (by omega) (by rw[hJ.step (by omega) hjn,←fT,(o34.pos (by omega)).1];exact o38.neg (by omega))
 refine aZ 7 [4] A A (by decide) ?_
 refine cZ [bigE [],eB9 b3] eW ?_
 exact bV (rs:=[.cell 4 28,.tmp 5]) (vs:=[.agg #[jI 0,.slice none 0 0,.slice none 0 0,.slice none 0 0],.bool false]) (post:=[bigE []]) rfl ⟨⟨b3,0,[jI 0,.slice none 0 0,.slice none 0 0,.slice none 0 0],rfl,rfl,by kernel_rfl,by kernel_rfl,aD 1 rfl 0 rfl⟩,rfl,trivial⟩ rfl (eJ [0] rfl) ⟨_,nt0,by rw[hno];rfl,rfl,fun w _=>⟨dN (w0:=w) (l:=[]) w (Mem.refl w),(fun s hs=>by cases hs),dN (w0:=w) (l:=[]) w (Mem.refl w),dN (w0:=w) (l:=[]) w (Mem.refl w)⟩,⟨rfl,rfl,rfl⟩,.none hno⟩
 refine bR (hH A (cK (bJ (aP A (dM A A A) (dJ 1 A ?_)))))
 exact eD (i+1) g38 v38 z38 ⟨by omega,by rw[hJ.step (by omega) hjn,←fT,(o34.pos (by omega)).1];exact(o38.pos (by omega)).1⟩ (by omega) (cT rfl) (dS rfl)
 refine bR (nG A ?_)
 refine bM (dI ?_)
 refine aO (bF (cF ?_))
 refine iR 7 [6,5,4,3,2,1,0] A A (by decide) ?_
 refine jE [boxE b5 #[jI (a.ins+(a.ss.length:Int)),.slice none 0 0,v,.slice none 0 0] 28,rS9 67 2 v g anC,bigE q.ps,rowE 28 4 (.slice (some ⟨g7,0,none⟩) 2 2) (([a,b]).length) (([a,b]).flatMap ntC),rS9 26 1 q.lv q.rs crowC,eB9 b3,nB9 b2 b,nB9 b1 a] gD ?_
 refine aM 1 A (dP A (bB (z:=jI 0) (s:=1) (cs:=(mI [sv])) A Tryz.underlying26 A (by decide) A (by kernel_rfl) A) ?_)
 intro g40
 refine aP A (cQ 3 A A A) (fI (i:=1) (cs':=#[jI (a.ins+(a.ss.length:Int)),.slice none 0 0,v,.slice (some ⟨g40,0,none⟩) 1 1]) A A A A A A A A A A A ?_)
 refine(dB (bF (aC (bJ (aP A (aF (cs:=[jI (a.ins+(a.ss.length:Int)),.slice none 0 0,v,.slice (some ⟨g40,0,none⟩) 1 1]) A A A A A (aD 1 A 0 A)) ?_)))))
 refine dZ (i:=2) A (fun ho41=>?_)
 refine bI (cs':=#[jI (a.ins+(a.ss.length:Int)),.slice none 0 0,v,.slice (some ⟨g40,0,none⟩) 1 1]) (i:=6) (off:=0) (us:=[jI (a.ins+(a.ss.length:Int)),.slice none 0 0,v,.slice (some ⟨g40,0,none⟩) 1 1]) A A A A A A A (aA A (aA A (aA ho41 (aA A bA)))) A A A (aU 1 A ?_)
 refine aV ?_
 have hyes:=hJ.fin (by omega) hjn
 refine cY (fun w hm=>(aG 2 A w hm).one) (fun hw1=>?_)
 refine cY (fun w hm=>(aG 0 A w hm).one) (fun hw2=>?_)
 refine aZ 9 [6,0,2] A A (by decide) ?_
 refine cB 2 A ?_
 exact bV (rs:=[.cell 4 28,.tmp 5]) (vs:=[.agg #[jI (a.ins+(a.ss.length:Int)),.slice none 0 0,v,.slice (some ⟨g40,0,none⟩) 1 1],.bool true]) (post:=[bigE [rS9 67 2 v g anC,rowE 3 1 (.slice (some ⟨g40,0,none⟩) 1 1) 1 (mI [sv])]]) rfl ⟨⟨b3,0,[jI (a.ins+(a.ss.length:Int)),.slice none 0 0,v,.slice (some ⟨g40,0,none⟩) 1 1],rfl,rfl,by kernel_rfl,by kernel_rfl,aD 1 rfl 0 rfl⟩,rfl,trivial⟩ rfl (eJ [0] rfl) ⟨_,(Nt.mk (a.ins+a.ss.length) (.slice none 0 0) v (.slice (some ⟨g40,0,none⟩) 1 1) [] g ([sv])),by rw[hyes];rfl,rfl,fun w hw=>⟨dN (w0:=w) (l:=[]) w (Mem.refl w),(fun s hs=>by cases hs),bT (aX hw cL),bT (aX hw (dK cL))⟩,⟨rfl,hw1,hw2⟩,fun r e=>by rw[hyes] at e;cases e;exact⟨rfl,rfl,rfl,rfl⟩⟩
 have hcn:=oN h4
 have hno:=jD hcn
 refine aU 1 A (aR A (cF (aP A (dQ (cs:=#[jI 0,.slice none 0 0,.slice none 0 0,.slice none 0 0]) A A A) ?_)))
 refine bI (cs':=#[jI 0,.slice none 0 0,.slice none 0 0,.slice none 0 0]) (i:=0) (off:=0) (us:=[jI 0,.slice none 0 0,.slice none 0 0,.slice none 0 0]) A A A A A A A (aA A (aA A (aA A (aA A bA)))) A A A (aU 1 A ?_)
 refine aV (aL ?_)
 refine aZ 3 [0] A A (by decide) ?_
 refine cZ [bigE [],eB9 b3] eW ?_
 exact bV (rs:=[.cell 4 28,.tmp 5]) (vs:=[.agg #[jI 0,.slice none 0 0,.slice none 0 0,.slice none 0 0],.bool false]) (post:=[bigE []]) rfl ⟨⟨b3,0,[jI 0,.slice none 0 0,.slice none 0 0,.slice none 0 0],rfl,rfl,by kernel_rfl,by kernel_rfl,aD 1 rfl 0 rfl⟩,rfl,trivial⟩ rfl (eJ [0] rfl) ⟨_,nt0,by rw[hno];rfl,rfl,fun w _=>⟨dN (w0:=w) (l:=[]) w (Mem.refl w),(fun s hs=>by cases hs),dN (w0:=w) (l:=[]) w (Mem.refl w),dN (w0:=w) (l:=[]) w (Mem.refl w)⟩,⟨rfl,rfl,rfl⟩,.none hno⟩
theorem Ds {f:Int}{m m1 m2:Nt}(hf:m.fst=f) {x y s z u:Int}(g1:GtS m m1 (xorO m.fst m.gs x y) z) (g2:GtS m1 m2 (orO m1.fst m1.gs s z) u):ES (u<0) ((xorO f m.gs x y).bind fun q=>orO f q.1 s q.2) (m2.gs,u):=by
  have e1:=g1.es
  have e2:=g2.es
  rw[hf] at e1
  rw[g1.gr.fst,hf] at e2
  refine ES.bind e1 (fun _=>e2) (fun hz=>?_)
  rcases e2 with⟨h1,h2⟩|⟨h1,h2⟩
  · have:=(qP h2).2.1;omega
  · exact h1
theorem uA (a:Nt) (w:World):RdsNt w (mt0 a):=⟨dN (w0:=w) (l:=[]) w (Mem.refl w),(fun s hs=>by cases hs),dN (w0:=w) (l:=[]) w (Mem.refl w),dN (w0:=w) (l:=[]) w (Mem.refl w)⟩
theorem rS (a b:Nt) (w:World) (ra:RdsNt w a) (rb_:RdsNt w b) (hA:NtSm a) (hB:NtSm b) :
   Calls Tryz.prog 6 #[.agg #[.int .i64 a.ins,a.sv,a.av,a.ov],.agg #[.int .i64 b.ins,b.sv,b.av,b.ov]] w (Ret w (fun u_ p_=>(∃(ps:List HP) (m:Nt),u_=.tuple #[m.agg,.bool (mtO a b).isSome]∧p_=[bigE ps]∧(∀w,(bigE ps).holds w→RdsNt w m)∧(m.sv.oneCell'=true∧m.av.oneCell'=true∧m.ov.oneCell'=true)∧MtIs a b m))):=by
 have as1:=hA.s1
 have aa1:=hA.a1
 have ao1:=hA.o1
 have bs1:=hB.s1
 have ba1:=hB.a1
 have bo1:=hB.o1
 refine bN (N:=139) (args:=[.agg #[jI a.ins,a.sv,a.av,a.ov],.agg #[jI b.ins,b.sv,b.av,b.ov]]) Tryz.func6 A A (cF ?_)
 refine cR A (cN A A) ?_
 intro b1
 refine cR A (cN A A) ?_
 intro b2
 refine cR A (bP (z:=.agg #[jI 0,.slice none 0 0,.slice none 0 0,.slice none 0 0]) A A) ?_
 intro b3
 refine aU 1 A (eP (aP A (aF (cs:=[jI a.ins,a.sv,a.av,a.ov]) A A A A A (aD 2 A 0 A)) ?_))
 refine dA A (aJ A A (fun w hm=>aY (mL a w (ra.below hm.bel) hA))) (bW (fun h4=>?_) (fun h4=>?_))
 have hak:=sP h4
 have ai0:=hak.i0
 have ai1:=hak.i1
 refine aM 2 A (aP A (aF (cs:=[jI b.ins,b.sv,b.av,b.ov]) A A A A A (aD 1 A 0 A)) ?_)
 refine dA A (aJ A A (fun w hm=>aY (mL b w (rb_.below hm.bel) hB))) (bW (fun h5=>?_) (fun h5=>?_))
 have hbk:=sP h5
 have bi0:=hbk.i0
 have bi1:=hbk.i1
 refine aM 3 A (aP A (cQ 0 A A A) (aP A (aN A A A (aH 2 A A)) (aP A (cQ 0 A A A) (aP A (aN A A A (aH 1 A A)) ?_))))
 refine hQ A A A A A A (fun h6=>?_) (fun h6=>?_)
 refine aU 28 A ?_
 refine aR A (cF (aP A (dQ (cs:=#[jI 0,.slice none 0 0,.slice none 0 0,.slice none 0 0]) A A A) ?_))
 refine bI (cs':=#[jI 0,.slice none 0 0,.slice none 0 0,.slice none 0 0]) (i:=0) (off:=0) (us:=[jI 0,.slice none 0 0,.slice none 0 0,.slice none 0 0]) A A A A A A A (aA A (aA A (aA A (aA A bA)))) A A A (aU 1 A ?_)
 refine aV (aL ?_)
 have hno:mtO a b=none:=jD (fun c=>by first|exact han c.ha|exact hbn c.hb|(have c1:=c.ins;have c2:=c.ss;have c3:=c.os;have c4:=c.c20;omega)|(have c5:=c.kd i (by omega);omega))
 refine aZ 3 [0] A A (by decide) ?_
 refine cZ [bigE [],eB9 b3] eW ?_
 exact bV (rs:=[.cell 4 28,.tmp 5]) (vs:=[.agg #[jI 0,.slice none 0 0,.slice none 0 0,.slice none 0 0],.bool false]) (post:=[bigE []]) rfl ⟨⟨b3,0,[jI 0,.slice none 0 0,.slice none 0 0,.slice none 0 0],rfl,rfl,by kernel_rfl,by kernel_rfl,aD 1 rfl 0 rfl⟩,rfl,trivial⟩ rfl (eJ [0] rfl) ⟨_,nt0,by rw[hno];rfl,rfl,fun w _=>⟨dN (w0:=w) (l:=[]) w (Mem.refl w),(fun s hs=>by cases hs),dN (w0:=w) (l:=[]) w (Mem.refl w),dN (w0:=w) (l:=[]) w (Mem.refl w)⟩,⟨rfl,rfl,rfl⟩,.none hno⟩
 refine aM 2 A (aP A (cQ 1 A A A) (aP A (aN A A A (aH 2 A A)) (aP A (bC A Tryz.underlying24 A (aE ra.sq)) (aP A (cQ 1 A A A) (aP A (aN A A A (aH 1 A A)) (aP A (bC A Tryz.underlying24 A (aE rb_.sq)) ?_))))))
 refine hQ A A A A A A (fun h7=>?_) (fun h7=>?_)
 refine aU 19 A (aR A (cF (aP A (dQ (cs:=#[jI 0,.slice none 0 0,.slice none 0 0,.slice none 0 0]) A A A) ?_)))
 refine bI (cs':=#[jI 0,.slice none 0 0,.slice none 0 0,.slice none 0 0]) (i:=0) (off:=0) (us:=[jI 0,.slice none 0 0,.slice none 0 0,.slice none 0 0]) A A A A A A A (aA A (aA A (aA A (aA A bA)))) A A A (aU 1 A ?_)
 refine aV (aL ?_)
 have hno:mtO a b=none:=jD (fun c=>by first|exact han c.ha|exact hbn c.hb|(have c1:=c.ins;have c2:=c.ss;have c3:=c.os;have c4:=c.c20;omega)|(have c5:=c.kd i (by omega);omega))
 refine aZ 3 [0] A A (by decide) ?_
 refine cZ [bigE [],eB9 b3] eW ?_
 exact bV (rs:=[.cell 4 28,.tmp 5]) (vs:=[.agg #[jI 0,.slice none 0 0,.slice none 0 0,.slice none 0 0],.bool false]) (post:=[bigE []]) rfl ⟨⟨b3,0,[jI 0,.slice none 0 0,.slice none 0 0,.slice none 0 0],rfl,rfl,by kernel_rfl,by kernel_rfl,aD 1 rfl 0 rfl⟩,rfl,trivial⟩ rfl (eJ [0] rfl) ⟨_,nt0,by rw[hno];rfl,rfl,fun w _=>⟨dN (w0:=w) (l:=[]) w (Mem.refl w),(fun s hs=>by cases hs),dN (w0:=w) (l:=[]) w (Mem.refl w),dN (w0:=w) (l:=[]) w (Mem.refl w)⟩,⟨rfl,rfl,rfl⟩,.none hno⟩
 refine aM 2 A (aP A (cQ 3 A A A) (aP A (aN A A A (aH 2 A A)) (aP A (bC A Tryz.underlying26 A (aE ra.ou)) (aP A (cQ 3 A A A) (aP A (aN A A A (aH 1 A A)) (aP A (bC A Tryz.underlying26 A (aE rb_.ou)) ?_))))))
 refine hQ A A A A A A (fun h8=>?_) (fun h8=>?_)
 refine aU 10 A (aR A (aC ?_))
 refine bJ (aP A (dQ (cs:=#[jI 0,.slice none 0 0,.slice none 0 0,.slice none 0 0]) A A A) ?_)
 refine bI (cs':=#[jI 0,.slice none 0 0,.slice none 0 0,.slice none 0 0]) (i:=0) (off:=0) (us:=[jI 0,.slice none 0 0,.slice none 0 0,.slice none 0 0]) A A A A A A A (aA A (aA A (aA A (aA A bA)))) A A A (aU 1 A ?_)
 refine aV (aL ?_)
 have hno:mtO a b=none:=jD (fun c=>by first|exact han c.ha|exact hbn c.hb|(have c1:=c.ins;have c2:=c.ss;have c3:=c.os;have c4:=c.c20;omega)|(have c5:=c.kd i (by omega);omega))
 refine aZ 3 [0] A A (by decide) ?_
 refine cZ [bigE [],eB9 b3] eW ?_
 exact bV (rs:=[.cell 4 28,.tmp 5]) (vs:=[.agg #[jI 0,.slice none 0 0,.slice none 0 0,.slice none 0 0],.bool false]) (post:=[bigE []]) rfl ⟨⟨b3,0,[jI 0,.slice none 0 0,.slice none 0 0,.slice none 0 0],rfl,rfl,by kernel_rfl,by kernel_rfl,aD 1 rfl 0 rfl⟩,rfl,trivial⟩ rfl (eJ [0] rfl) ⟨_,nt0,by rw[hno];rfl,rfl,fun w _=>⟨dN (w0:=w) (l:=[]) w (Mem.refl w),(fun s hs=>by cases hs),dN (w0:=w) (l:=[]) w (Mem.refl w),dN (w0:=w) (l:=[]) w (Mem.refl w)⟩,⟨rfl,rfl,rfl⟩,.none hno⟩
 refine aM 2 A (aP A (cQ 0 A A A) (aP A (aN A A A (aH 2 A A)) (aP A (cQ 1 A A A) (aP A (aN A A A (aH 2 A A)) (aP A (bC A Tryz.underlying24 A (aE ra.sq)) (aP A (dM A A A) ?_))))))
 refine fJ A A A A A A (fun h9=>?_) (fun h9=>?_)
 refine aU 1 A (aR A (cF (aP A (dQ (cs:=#[jI 0,.slice none 0 0,.slice none 0 0,.slice none 0 0]) A A A) ?_)))
 refine bI (cs':=#[jI 0,.slice none 0 0,.slice none 0 0,.slice none 0 0]) (i:=0) (off:=0) (us:=[jI 0,.slice none 0 0,.slice none 0 0,.slice none 0 0]) A A A A A A A (aA A (aA A (aA A (aA A bA)))) A A A (aU 1 A ?_)
 refine aV (aL ?_)
 have hno:mtO a b=none:=jD (fun c=>by first|exact han c.ha|exact hbn c.hb|(have c1:=c.ins;have c2:=c.ss;have c3:=c.os;have c4:=c.c20;omega)|(have c5:=c.kd i (by omega);omega))
 refine aZ 3 [0] A A (by decide) ?_
 refine cZ [bigE [],eB9 b3] eW ?_
 exact bV (rs:=[.cell 4 28,.tmp 5]) (vs:=[.agg #[jI 0,.slice none 0 0,.slice none 0 0,.slice none 0 0],.bool false]) (post:=[bigE []]) rfl ⟨⟨b3,0,[jI 0,.slice none 0 0,.slice none 0 0,.slice none 0 0],rfl,rfl,by kernel_rfl,by kernel_rfl,aD 1 rfl 0 rfl⟩,rfl,trivial⟩ rfl (eJ [0] rfl) ⟨_,nt0,by rw[hno];rfl,rfl,fun w _=>⟨dN (w0:=w) (l:=[]) w (Mem.refl w),(fun s hs=>by cases hs),dN (w0:=w) (l:=[]) w (Mem.refl w),dN (w0:=w) (l:=[]) w (Mem.refl w)⟩,⟨rfl,rfl,rfl⟩,.none hno⟩
 refine aU 1 A (aS A (bY (aC (bD 1 A ?_))))
 refine bE ?_
 refine hO (α:=Nat) [0,1,2,3,4,5,56] A (fun i=>[eB9 b3,nB9 b2 b,nB9 b1 a]) (fun i=>[(6,jI (i:Int))]) (fun i=>i≤a.ss.length∧∀j,j<i→(a.ss.getD j sq0).kd=(b.ss.getD j sq0).kd) (fun i=>a.ss.length-i) 0 ⟨Nat.zero_le _,fun j hj=>absurd hj (Nat.not_lt_zero _)⟩ (cT A) (dS A) ?_
 intro i hi10
 obtain⟨hi,hkd⟩:=hi10
 refine aC (aC (bZ 1 A (aP A (cQ 1 A A A) (aP A (aN A A A (aH 2 A A)) (aP A (bC A Tryz.underlying24 A (aE ra.sq)) ?_)))))
 refine bQ A A A A A A (fun h11=>?_) (fun h11=>?_)
 refine bR (aR A (bY (fM (aC ?_))))
 refine cJ 13 [[],[0],[],[1,2],[3],[4],[],[6],[],[7,8],[9],[10],[5,11]] [65,66,67,68,69,70,71,72,73,74,75,76,77] [.pointer (some ⟨b1,0+1,none⟩),a.sv,jI (i:Int),elP a.sv ((i:Int).toNat*3),elP a.sv ((i:Int).toNat*3+0),jI ((a.ss.getD i sq0).kd),.pointer (some ⟨b2,0+1,none⟩),b.sv,jI (i:Int),elP b.sv ((i:Int).toNat*3),elP b.sv ((i:Int).toNat*3+0),jI ((b.ss.getD i sq0).kd),.bool (((a.ss.getD i sq0).kd) != ((b.ss.getD i sq0).kd))] (by kernel_rfl) A ?_ ?_
 exact⟨bK A (cQ 1 A A A) A,bK A (aN A A A (aH 2 A A)) A,bK A (aK A) A,bK A (dF 3 A A A A (aE ra.sq)) A,bK A (cC (k0:=0) A A A (aE ra.sq) (by omega)) A,bK A (bG (u:=jI ((a.ss.getD i sq0).kd)) A A A (aE ra.sq) ((dE sqC 3 (fun _=>A) a.ss sq0 (show i<_ by omega) (by decide)).trans A)) A,bK A (cQ 1 A A A) A,bK A (aN A A A (aH 1 A A)) A,bK A (aK A) A,bK A (dF 3 A A A A (aE rb_.sq)) A,bK A (cC (k0:=0) A A A (aE rb_.sq) (by omega)) A,bK A (bG (u:=jI ((b.ss.getD i sq0).kd)) A A A (aE rb_.sq) ((dE sqC 3 (fun _=>A) b.ss sq0 (show i<_ by omega) (by decide)).trans A)) A,bK A (dC A A A A) A,trivial⟩
 simp only[List.drop_succ_cons,List.drop_zero]
 refine bR ?_
 refine fU A (fun h12=>?_) (fun h12=>?_)
 have h12p:(a.ss.getD i sq0).kd≠(b.ss.getD i sq0).kd:=bne_iff_ne.1 h12
 refine cF (aP A (dQ (cs:=#[jI 0,.slice none 0 0,.slice none 0 0,.slice none 0 0]) A A A) ?_)
 refine bI (cs':=#[jI 0,.slice none 0 0,.slice none 0 0,.slice none 0 0]) (i:=0) (off:=0) (us:=[jI 0,.slice none 0 0,.slice none 0 0,.slice none 0 0]) A A A A A A A (aA A (aA A (aA A (aA A bA)))) A A A (aU 1 A ?_)
 refine aV (aQ ?_)
 refine fL ?_
 refine aQ (aL ?_)
 have hno:mtO a b=none:=jD (fun c=>by first|exact han c.ha|exact hbn c.hb|(have c1:=c.ins;have c2:=c.ss;have c3:=c.os;have c4:=c.c20;omega)|(have c5:=c.kd i (by omega);omega))
 refine aZ 3 [0] A A (by decide) ?_
 refine cZ [bigE [],eB9 b3] eW ?_
 exact bV (rs:=[.cell 4 28,.tmp 5]) (vs:=[.agg #[jI 0,.slice none 0 0,.slice none 0 0,.slice none 0 0],.bool false]) (post:=[bigE []]) rfl ⟨⟨b3,0,[jI 0,.slice none 0 0,.slice none 0 0,.slice none 0 0],rfl,rfl,by kernel_rfl,by kernel_rfl,aD 1 rfl 0 rfl⟩,rfl,trivial⟩ rfl (eJ [0] rfl) ⟨_,nt0,by rw[hno];rfl,rfl,fun w _=>⟨dN (w0:=w) (l:=[]) w (Mem.refl w),(fun s hs=>by cases hs),dN (w0:=w) (l:=[]) w (Mem.refl w),dN (w0:=w) (l:=[]) w (Mem.refl w)⟩,⟨rfl,rfl,rfl⟩,.none hno⟩
 have h12p:(a.ss.getD i sq0).kd=(b.ss.getD i sq0).kd:=(bne_eq_false_iff_eq.1 h12)
 refine fP (cK (bZ 1 A (aP A (dM A A A) (dJ 1 A ?_))))
 exact cU (i+1) ⟨by omega,fun j hj=>by by_cases e9:j=i;(subst e9;omega);exact hkd j (by omega)⟩ (by omega) (cT A) (dS A)
 refine bR (aS A ?_)
 refine bM (dI ?_)
 refine aO (bF (cF ?_))
 have hc:CmpOk a b:=⟨hak,hbk,by omega,by omega,by omega,by omega,fun j hj=>(hkd j (by omega)).symm⟩
 have afst:a.fst=1+a.ins+a.ss.length:=rfl
 have cc:=hc.c20
 have mfst:=fT a
 have hko:=yH hak cc
 refine aP A (cQ 0 A A A) (aP A (aN A A A (aH 2 A A)) (aP A (cQ 1 A A A) (aP A (aN A A A (aH 2 A A)) (aP A (bC A Tryz.underlying24 A (aE ra.sq)) (aP A (dM A A A) (aP A (dQ (cs:=#[jI (a.ins+(a.ss.length:Int)),.slice none 0 0,.slice none 0 0,.slice none 0 0]) A A A) (aP A (aF (cs:=[jI a.ins,a.sv,a.av,a.ov]) A A A A A (aD 2 A 0 A)) ?_)))))))
 refine eB A A A (aJ A A (fun w hm=>mM (mt0 a) a w (uA a w) hko (ra.below hm.bel) hak (fT a))) ?_
 intro v13 p14 R15
 obtain⟨p1,m1,v1,u1,rfl,rfl,hN1,hpu1,⟨o1m1,o2m1,o3m1⟩,hv1,hI1⟩:=R15
 simp only[fT] at hI1 ⊢
 have hI1:∀r,impO a.fst a.gs [] (lfO a.fst)=some r→Gr (mt0 a) m1∧r.1=m1.gs∧u1=rtM a r.2:=hI1
 refine aM 4 A (bW (fun h16=>?_) (fun h16=>?_))
 obtain⟨r1,hr1⟩:=Option.isSome_iff_exists.1 h16
 obtain⟨hG1,hg1,hu1⟩:=hI1 r1 hr1
 have hf1:m1.fst=a.fst:=hG1.fst.trans (fT a)
 refine cR A (bP (z:=.agg #[jI 0,.slice none 0 0,.slice none 0 0,.slice none 0 0]) A A) ?_
 intro b17
 refine bI (cs':=#[jI m1.ins,m1.sv,m1.av,m1.ov]) (i:=0) (off:=0) (us:=[jI m1.ins,m1.sv,m1.av,m1.ov]) A A A A A A A (aA A (aA o1m1 (aA o2m1 (aA o3m1 bA)))) A A A (aU 2 A (aC (bD 2 A (aS A (bY ?_)))))
 refine cF (aP A (aF (cs:=[jI m1.ins,m1.sv,m1.av,m1.ov]) A A A A A (aD 0 A 0 A)) (aP A (aF (cs:=[jI b.ins,b.sv,b.av,b.ov]) A A A A A (aD 3 A 0 A)) ?_))
 refine eB A A A (aJ A A (fun w hm=>mM m1 b w (zP hN1 (uA a w) (hm.holds _ (bX (i:=1) A))) hG1.ok (rb_.below hm.bel) hbk (hf1.trans hc.fst.symm))) ?_
 intro v18 p19 R20
 obtain⟨p2,m2,v2,u2,rfl,rfl,hN2,hpu2,⟨o1m2,o2m2,o3m2⟩,hv2,hI2⟩:=R20
 refine aM 4 A (bW (fun h21=>?_) (fun h21=>?_))
 obtain⟨r2,hr2⟩:=Option.isSome_iff_exists.1 h21
 obtain⟨hG2,hg2,hu2⟩:=hI2 r2 hr2
 have hf2:m2.fst=a.fst:=hG2.fst.trans hf1
 rw[hf1] at hr2
 have hJ:=MitI.join (rs:=[CRow.mk v1 u1,CRow.mk v2 u2]) hc (by show MitI a b 2 r2.1 [u1,u2];rw[hu1,hu2];exact .two (g1:=r1.1) (pa:=r1.2) (pb:=r2.2) hr1 (by rw[hg1];exact hr2))
 have hJ:MitJ a b u1 u2 m2.gs:=hg2▸hJ
 have hJl:=hJ.len
 have hJr:=hJ.rts
 have hrt:=gM hak a.ss.length (Nat.le_refl _)
 refine bI (cs':=#[jI m2.ins,m2.sv,m2.av,m2.ov]) (i:=1) (off:=0) (us:=[jI m2.ins,m2.sv,m2.av,m2.ov]) A A A A A A A (aA A (aA o1m2 (aA o2m2 (aA o3m2 bA)))) A A A (aU 2 A (aC (bD 2 A (aS A (bY ?_)))))
 refine bD 1 A (aC (bD 1 A (bE ?_)))
 refine eE 6 [5,4,3,1,0,2] A A (by decide) ?_
 refine uK 2 A ?_
 have hpb0:∀w,(bigE [bigE p1,bigE p2]).holds w→RdsNt w m2∧RdsW w v1 1 u1.length (mI u1)∧RdsW w v2 1 u2.length (mI u2):=fun w hw=>⟨zP hN2 (zP hN1 (uA a w) (aX hw cL)) (aX hw (dK cL)),hpu1 w (aX hw cL),hpu2 w (aX hw (dK cL))⟩
 refine oP (α:=Nat) (β:=Nt) (γ:=List HP) (δ:=Int) [0,1,2,3,4,5,6,7,8,9,10,56,62,93,103] A (fun i2 mm ps sv=>[bigE ps,nB9 b17 mm,eB9 b3,nB9 b2 b,nB9 b1 a]) (fun i2 mm ps sv=>[(11,jI sv),(12,jI (i2:Int))]) (fun i2 mm ps sv=>i2≤u1.length∧Gr m2 mm∧jnO a.fst ((u1.zip u2).take i2) m2.gs 0=some (mm.gs,sv)∧(∀w,(bigE ps).holds w→RdsNt w mm∧RdsW w v1 1 u1.length (mI u1)∧RdsW w v2 1 u2.length (mI u2))∧(mm.sv.oneCell'=true∧mm.av.oneCell'=true∧mm.ov.oneCell'=true)) (fun i2 mm ps sv=>u1.length-i2) 0 m2 _ 0 ⟨Nat.zero_le _,Gr.refl hG2.ok,A,hpb0,⟨o1m2,o2m2,o3m2⟩⟩ (cT A) (dS A) ?_
 intro i2 mm ps sv hi22
 obtain⟨hi2,hGm,hjn,hpb,⟨o1q,o2q,o3q⟩⟩:=hi22
 obtain⟨hgk,hex,hsv⟩:=hJ.run hi2 hjn
 have hmf:mm.fst=a.fst:=hGm.fst.trans hf2
 have hmc:=gI mm
 have hcm:=eX hGm.ok
 unfold LtOk at hsv
 refine aC (aC (bZ 2 A ?_))
 refine aP A (bC A Tryz.underlying26 A (fun w hm=>(hpb w (hm.holds _ (bX (i:=0) A))).2.1)) (bQ A A A A A A (fun h23=>?_) (fun h23=>?_))
 refine bR (aR A (bY (fM (aC ?_))))
 have hat:=hJ.at (i:=i2) (by omega) hex
 unfold LtOk at hat
 refine eF (l:=[bigE ps,nB9 b17 mm,eB9 b3,nB9 b2 b,nB9 b1 a]) A 15 [0,1,2,3,4,5,6,7,8,9,10,11,12,13,14] (List.take 15 _) (List.drop 15 _) [[],[],[],[1,2],[3],[],[],[5,6],[7],[0,4,8],[9],[9,10],[9,10],[],[9,11,13]] [some 112,some 113,some 114,some 115,some 116,some 117,some 118,some 119,some 120,some 121,some 111,some 122,some 123,some 13,none] (fun i_ vs_ v_ p_=>match i_ with|0=>v_=.agg #[jI mm.ins,mm.sv,mm.av,mm.ov]∧p_=[]|1=>v_=v1∧p_=[]|2=>v_=jI (i2:Int)∧p_=[]|3=>v_=elP v1 ((i2:Int).toNat*1)∧p_=[]|4=>v_=jI (u1.getD i2 0)∧p_=[]|5=>v_=v2∧p_=[]|6=>v_=jI (i2:Int)∧p_=[]|7=>v_=elP v2 ((i2:Int).toNat*1)∧p_=[]|8=>v_=jI (u2.getD i2 0)∧p_=[]|9=>(fun u_ p_=>GP9 mm (xorO mm.fst mm.gs (u1.getD i2 0) (u2.getD i2 0)) u_ p_) v_ p_|10=>v_=.tuple #[.agg #[jI (intOf_o (ag9 0 (tp9 0 (gV9 vs_ 0)))),(ag9 1 (tp9 0 (gV9 vs_ 0))),(ag9 2 (tp9 0 (gV9 vs_ 0))),(ag9 3 (tp9 0 (gV9 vs_ 0)))],jI (intOf_o (tp9 1 (gV9 vs_ 0)))]∧p_=[]|11=>v_=.agg #[jI (intOf_o (ag9 0 (tp9 0 (gV9 vs_ 0)))),(ag9 1 (tp9 0 (gV9 vs_ 0))),(ag9 2 (tp9 0 (gV9 vs_ 0))),(ag9 3 (tp9 0 (gV9 vs_ 0)))]∧p_=[]|12=>v_=jI (intOf_o (tp9 1 (gV9 vs_ 0)))∧p_=[]|13=>IsBox #[jI 0,.slice none 0 0,.slice none 0 0,.slice none 0 0] 28 v_ p_|14=>p_=[boxE (blkOf (gV9 vs_ 2)) #[jI (intOf_o (ag9 0 (tp9 0 (gV9 vs_ 0)))),(ag9 1 (tp9 0 (gV9 vs_ 0))),(ag9 2 (tp9 0 (gV9 vs_ 0))),(ag9 3 (tp9 0 (gV9 vs_ 0)))] 28]|_=>True) [[],[],[],[1,2],[3],[],[],[5,6],[7],[0,4,8],[9],[9,10],[9,10],[],[9,11]] [none,none,none,none,none,none,none,none,none,none,none,none,none,none,some 13] [] [0,1,2,3,4,5,6,7,8,9,10,11,12,14] 16 (List.take_append_drop 15 _).symm (by kernel_rfl) (by kernel_rfl) (by kernel_rfl) A A ?_ ?_
 refine⟨?_,?_,?_,?_,?_,?_,?_,?_,?_,?_,?_,?_,?_,?_,?_,trivial⟩
 intro vf pf hmu hR
 refine bL [] [] A (aW (aI [7] A) (List.sublist_append_right _ _) ?_)
 exact aT (aF (cs:=[jI mm.ins,mm.sv,mm.av,mm.ov]) A A A A A (aD 1 A 0 A))
 intro vf pf hmu hR
 refine bL [] [] A (bH (aI [8] A) ?_)
 exact aT (aK A)
 intro vf pf hmu hR
 refine bL [] [] A (bH (aI [12] A) ?_)
 exact aT (aK A)
 intro vf pf hmu hR
 have e1:=hR 1 (by decide)
 have e2:=hR 2 (by decide)
 refine bL [1,2] [1,2] A (aW (sk 113 (congrArg some e1.1) (sk 114 (congrArg some e2.1) (aB _))) (List.sublist_append_right _ _) ?_)
 exact aT (dF 1 A A A A (fun w hm=>(hpb w (hm.holds _ (bX (i:=0) A))).2.1))
 intro vf pf hmu hR
 have e3:=hR 3 (by decide)
 refine bL [3] [3] A (aW (sk 115 (congrArg some e3.1) (aB _)) (List.sublist_append_right _ _) ?_)
 exact aT (hC A A A (fun w hm=>(hpb w (hm.holds _ (bX (i:=0) A))).2.1))
 intro vf pf hmu hR
 refine bL [] [] A (bH (aI [10] A) ?_)
 exact aT (aK A)
 intro vf pf hmu hR
 refine bL [] [] A (bH (aI [12] A) ?_)
 exact aT (aK A)
 intro vf pf hmu hR
 have e5:=hR 5 (by decide)
 have e6:=hR 6 (by decide)
 refine bL [5,6] [5,6] A (aW (sk 117 (congrArg some e5.1) (sk 118 (congrArg some e6.1) (aB _))) (List.sublist_append_right _ _) ?_)
 exact aT (dF 1 A A A A (fun w hm=>(hpb w (hm.holds _ (bX (i:=0) A))).2.2))
 intro vf pf hmu hR
 have e7:=hR 7 (by decide)
 refine bL [7] [7] A (aW (sk 119 (congrArg some e7.1) (aB _)) (List.sublist_append_right _ _) ?_)
 exact aT (hC A A A (fun w hm=>(hpb w (hm.holds _ (bX (i:=0) A))).2.2))
 intro vf pf hmu hR
 have e0:=hR 0 (by decide)
 have e4:=hR 4 (by decide)
 have e8:=hR 8 (by decide)
 refine bL [0,4,8] [0,4,8] A (aW (sk 112 (congrArg some e0.1) (sk 116 (congrArg some e4.1) (sk 120 (congrArg some e8.1) (aB _)))) (List.sublist_append_right _ _) ?_)
 exact aJ A A (fun w hm=>xN mm (u1.getD i2 0) (u2.getD i2 0) w (hpb w (hm.holds _ (bX (i:=0) A))).1 hGm.ok (by first|omega|exact jW (by omega) (by omega)) (by first|omega|exact jW (by omega) (by omega)))
 intro vf pf hmu hR
 have e9:(fun u_ p_=>GP9 mm (xorO mm.fst mm.gs (u1.getD i2 0) (u2.getD i2 0)) u_ p_) (vf 9) (pf 9):=hR 9 (by decide)
 obtain⟨v24,vE9⟩:∃x,vf 9=x:=⟨_,rfl⟩
 obtain⟨p25,pE9⟩:∃x,pf 9=x:=⟨_,rfl⟩
 have R26:=e9
 rw[vE9,pE9] at R26
 obtain⟨ps26,m26,z26,rfl,rfl,hpm26,⟨o1mhR26,o2mhR26,o3mhR26⟩,gm26⟩:=R26
 have lm26:=gm26.ln
 have cm26:=gm26.gr.cnt
 have rm26:=eX gm26.gr.ok
 refine bL [9] [9] A (bU (sk 121 (congrArg some vE9) (aB _)) (by simp only[pE9,vE9,fS]<;>rfl) ?_)
 exact cD (aT (aK A)) (fun _ _ h=>⟨h.1.trans (by show _=(.tuple #[.agg #[jI (intOf_o (ag9 0 (tp9 0 (vf 9)))),(ag9 1 (tp9 0 (vf 9))),(ag9 2 (tp9 0 (vf 9))),(ag9 3 (tp9 0 (vf 9)))],jI (intOf_o (tp9 1 (vf 9)))]:Value);first|(rw[vE9];done)|(rw[vE9];rfl)),h.2⟩)
 intro vf pf hmu hR
 have e9:(fun u_ p_=>GP9 mm (xorO mm.fst mm.gs (u1.getD i2 0) (u2.getD i2 0)) u_ p_) (vf 9) (pf 9):=hR 9 (by decide)
 obtain⟨v24,vE9⟩:∃x,vf 9=x:=⟨_,rfl⟩
 obtain⟨p25,pE9⟩:∃x,pf 9=x:=⟨_,rfl⟩
 have R26:=e9
 rw[vE9,pE9] at R26
 obtain⟨ps26,m26,z26,rfl,rfl,hpm26,⟨o1mhR26,o2mhR26,o3mhR26⟩,gm26⟩:=R26
 have lm26:=gm26.ln
 have cm26:=gm26.gr.cnt
 have rm26:=eX gm26.gr.ok
 have e10:(vf 10)=.tuple #[.agg #[jI (intOf_o (ag9 0 (tp9 0 (vf 9)))),(ag9 1 (tp9 0 (vf 9))),(ag9 2 (tp9 0 (vf 9))),(ag9 3 (tp9 0 (vf 9)))],jI (intOf_o (tp9 1 (vf 9)))]∧(pf 10)=[]:=hR 10 (by decide)
 rw[vE9] at e10
 refine bL [9,10] [9,10] A (bU (sk 111 (congrArg some e10.1) (aB _)) (by simp only[pE9,vE9,e10.2,fS]<;>rfl) ?_)
 exact cD (aT (aK A)) (fun _ _ h=>⟨h.1.trans (by show _=(.agg #[jI (intOf_o (ag9 0 (tp9 0 (vf 9)))),(ag9 1 (tp9 0 (vf 9))),(ag9 2 (tp9 0 (vf 9))),(ag9 3 (tp9 0 (vf 9)))]:Value);first|(rw[vE9];done)|(rw[vE9];rfl)),h.2⟩)
 intro vf pf hmu hR
 have e9:(fun u_ p_=>GP9 mm (xorO mm.fst mm.gs (u1.getD i2 0) (u2.getD i2 0)) u_ p_) (vf 9) (pf 9):=hR 9 (by decide)
 obtain⟨v24,vE9⟩:∃x,vf 9=x:=⟨_,rfl⟩
 obtain⟨p25,pE9⟩:∃x,pf 9=x:=⟨_,rfl⟩
 have R26:=e9
 rw[vE9,pE9] at R26
 obtain⟨ps26,m26,z26,rfl,rfl,hpm26,⟨o1mhR26,o2mhR26,o3mhR26⟩,gm26⟩:=R26
 have lm26:=gm26.ln
 have cm26:=gm26.gr.cnt
 have rm26:=eX gm26.gr.ok
 have e10:(vf 10)=.tuple #[.agg #[jI (intOf_o (ag9 0 (tp9 0 (vf 9)))),(ag9 1 (tp9 0 (vf 9))),(ag9 2 (tp9 0 (vf 9))),(ag9 3 (tp9 0 (vf 9)))],jI (intOf_o (tp9 1 (vf 9)))]∧(pf 10)=[]:=hR 10 (by decide)
 rw[vE9] at e10
 refine bL [9,10] [9,10] A (bU (sk 111 (congrArg some e10.1) (aB _)) (by simp only[pE9,vE9,e10.2,fS]<;>rfl) ?_)
 exact cD (aT (aK A)) (fun _ _ h=>⟨h.1.trans (by show _=(jI (intOf_o (tp9 1 (vf 9))):Value);first|(rw[vE9];done)|(rw[vE9];rfl)),h.2⟩)
 intro vf pf hmu hR
 refine bL [] [] A (aW (aB _) (List.sublist_append_right _ _) ?_)
 exact bP (z:=.agg #[jI 0,.slice none 0 0,.slice none 0 0,.slice none 0 0]) A A
 intro vf pf hmu hR
 have e9:(fun u_ p_=>GP9 mm (xorO mm.fst mm.gs (u1.getD i2 0) (u2.getD i2 0)) u_ p_) (vf 9) (pf 9):=hR 9 (by decide)
 obtain⟨v24,vE9⟩:∃x,vf 9=x:=⟨_,rfl⟩
 obtain⟨p25,pE9⟩:∃x,pf 9=x:=⟨_,rfl⟩
 have R26:=e9
 rw[vE9,pE9] at R26
 obtain⟨ps26,m26,z26,rfl,rfl,hpm26,⟨o1mhR26,o2mhR26,o3mhR26⟩,gm26⟩:=R26
 have lm26:=gm26.ln
 have cm26:=gm26.gr.cnt
 have rm26:=eX gm26.gr.ok
 have e11:(vf 11)=.agg #[jI (intOf_o (ag9 0 (tp9 0 (vf 9)))),(ag9 1 (tp9 0 (vf 9))),(ag9 2 (tp9 0 (vf 9))),(ag9 3 (tp9 0 (vf 9)))]∧(pf 11)=[]:=hR 11 (by decide)
 rw[vE9] at e11
 have e13:IsBox #[jI 0,.slice none 0 0,.slice none 0 0,.slice none 0 0] 28 (vf 13) (pf 13):=hR 13 (by decide)
 obtain⟨b27,vE13,pE13⟩:=e13
 refine Or.inl ⟨A,?_⟩
 show RunM _ _ _ (pf 13) (([9,11]:List Nat).flatMap pf++_) (envOf3 _ vf [9,11,13]++_) _ _
 rw[pE13]
 exact cV (sk 13 (congrArg some vE13) (sk 122 (congrArg some e11.1) (aB _))) (by simp only[pE9,vE9,e11.2,fS]<;>rfl) (fD (dR (us:=[jI m26.ins,m26.sv,m26.av,m26.ov]) (off:=0) 0 A A A A A A (aA A (aA o1mhR26 (aA o2mhR26 (aA o3mhR26 bA)))) A A) (fun v_ p_ h=>by show p_=[boxE (blkOf (vf 13)) #[jI (intOf_o (ag9 0 (tp9 0 (vf 9)))),(ag9 1 (tp9 0 (vf 9))),(ag9 2 (tp9 0 (vf 9))),(ag9 3 (tp9 0 (vf 9)))] 28];rw[vE9,vE13];exact h))
 intro vf pf hmu hR
 have e9:(fun u_ p_=>GP9 mm (xorO mm.fst mm.gs (u1.getD i2 0) (u2.getD i2 0)) u_ p_) (vf 9) (pf 9):=hR 9 (by decide)
 obtain⟨v24,vE9⟩:∃x,vf 9=x:=⟨_,rfl⟩
 obtain⟨p25,pE9⟩:∃x,pf 9=x:=⟨_,rfl⟩
 have R26:=e9
 rw[vE9,pE9] at R26
 obtain⟨ps26,m26,z26,rfl,rfl,hpm26,⟨o1mhR26,o2mhR26,o3mhR26⟩,gm26⟩:=R26
 have lm26:=gm26.ln
 have cm26:=gm26.gr.cnt
 have rm26:=eX gm26.gr.ok
 have e12:(vf 12)=jI (intOf_o (tp9 1 (vf 9)))∧(pf 12)=[]:=hR 12 (by decide)
 rw[vE9] at e12
 have e13:IsBox #[jI 0,.slice none 0 0,.slice none 0 0,.slice none 0 0] 28 (vf 13) (pf 13):=hR 13 (by decide)
 obtain⟨b27,vE13,pE13⟩:=e13
 have e14:(pf 14)=[boxE (blkOf (vf 13)) #[jI (intOf_o (ag9 0 (tp9 0 (vf 9)))),(ag9 1 (tp9 0 (vf 9))),(ag9 2 (tp9 0 (vf 9))),(ag9 3 (tp9 0 (vf 9)))] 28]:=hR 14 (by decide)
 rw[vE9,vE13] at e14
 have pE14:=e14
 have q0:=hR 0 (by decide)
 have q1:=hR 1 (by decide)
 have q2:=hR 2 (by decide)
 have q3:=hR 3 (by decide)
 have q4:=hR 4 (by decide)
 have q5:=hR 5 (by decide)
 have q6:=hR 6 (by decide)
 have q7:=hR 7 (by decide)
 have q8:=hR 8 (by decide)
 have q10:=hR 10 (by decide)
 have q11:=hR 11 (by decide)
 have q12:=hR 12 (by decide)
 refine cE (bO [12,11,10,9,8,7,6,5,4,3,2,1,0] _ (sk 13 (congrArg some vE13) (bO [108,103,93,62,56] _ (sk 123 (congrArg some e12.1) (aB _)) A)) A) (by simp only[pE9,vE9,pE14,q0.2,q1.2,q2.2,q3.2,q4.2,q5.2,q6.2,q7.2,q8.2,q10.2,q11.2,q12.2,fS]<;>rfl) ?_
 simp only[List.drop_succ_cons,List.drop_zero]
 refine aU 1 A (cF (aP A (aF (cs:=[jI m26.ins,m26.sv,m26.av,m26.ov]) A A A A A (aD 1 A 0 A)) (aM 2 A ?_)))
 refine eB A A A (aJ A A (fun w hm=>zI m26 sv z26 w (hpm26 w (hm.holds _ (bX (i:=0) A))) gm26.gr.ok (by first|omega|exact jW (by omega) (by omega)) (by first|omega|exact jW (by omega) (by omega)))) ?_
 intro v28 p29 R30
 obtain⟨ps30,m30,z30,rfl,rfl,hpm30,⟨o1mhR30,o2mhR30,o3mhR30⟩,gm30⟩:=R30
 have lm30:=gm30.ln
 have cm30:=gm30.gr.cnt
 have rm30:=eX gm30.gr.ok
 refine aM 3 A (bI (cs':=#[jI m30.ins,m30.sv,m30.av,m30.ov]) (i:=2) (off:=0) (us:=[jI m30.ins,m30.sv,m30.av,m30.ov]) A A A A A A A (aA A (aA o1mhR30 (aA o2mhR30 (aA o3mhR30 bA)))) A A A ?_)
 refine aU 1 A (aC (aC (bZ 1 A ?_)))
 refine bQ A A A A A A (fun h31=>?_) (fun h31=>?_)
 refine bR (aR A (cF (aP A (dQ (cs:=#[jI 0,.slice none 0 0,.slice none 0 0,.slice none 0 0]) A A A) ?_)))
 refine bI (cs':=#[jI 0,.slice none 0 0,.slice none 0 0,.slice none 0 0]) (i:=5) (off:=0) (us:=[jI 0,.slice none 0 0,.slice none 0 0,.slice none 0 0]) A A A A A A A (aA A (aA A (aA A (aA A bA)))) A A A (aU 1 A ?_)
 refine aV (aL ?_)
 refine aQ (fL ?_)
 refine aQ (aL ?_)
 have hno:mtO a b=none:=hJ.fail (i:=i2) (by omega) (by rw[hJ.step (by omega) hjn];exact(Ds hmf gm26 gm30).neg (by omega))
 refine aZ 8 [5] A A (by decide) ?_
 refine cZ [bigE [],eB9 b3] eW ?_
 exact bV (rs:=[.cell 4 28,.tmp 5]) (vs:=[.agg #[jI 0,.slice none 0 0,.slice none 0 0,.slice none 0 0],.bool false]) (post:=[bigE []]) rfl ⟨⟨b3,0,[jI 0,.slice none 0 0,.slice none 0 0,.slice none 0 0],rfl,rfl,by kernel_rfl,by kernel_rfl,aD 1 rfl 0 rfl⟩,rfl,trivial⟩ rfl (eJ [0] rfl) ⟨_,nt0,by rw[hno];rfl,rfl,fun w _=>⟨dN (w0:=w) (l:=[]) w (Mem.refl w),(fun s hs=>by cases hs),dN (w0:=w) (l:=[]) w (Mem.refl w),dN (w0:=w) (l:=[]) w (Mem.refl w)⟩,⟨rfl,rfl,rfl⟩,.none hno⟩
 refine bR (aS A (bY (bJ (aP A (aF (cs:=[jI m30.ins,m30.sv,m30.av,m30.ov]) A A A A A (aD 2 A 0 A)) ?_))))
 refine bI (cs':=#[jI m30.ins,m30.sv,m30.av,m30.ov]) (i:=4) (off:=0) (us:=[jI m30.ins,m30.sv,m30.av,m30.ov]) A A A A A A A (aA A (aA o1mhR30 (aA o2mhR30 (aA o3mhR30 bA)))) A A A (dB (cK (bZ 1 A (aP A (dM A A A) (dJ 1 A ?_)))))
 refine aZ 8 [7,6,5,4,0,3] A A (by decide) ?_
 refine cB 2 A ?_
 exact eD (i2+1) m30 [bigE ps,bigE ps30] z30 ⟨by omega,(hGm.trans gm26.gr).trans gm30.gr,by rw[hJ.step (by omega) hjn];exact(Ds hmf gm26 gm30).pos (by omega),fun w hw=>⟨hpm30 w (aX hw (dK cL)),(hpb w (aX hw cL)).2⟩,⟨o1mhR30,o2mhR30,o3mhR30⟩⟩ (by omega) (cT rfl) (dS rfl)
 refine bR (aS A ?_)
 refine bM (dI ?_)
 refine aO (bF (aC (bZ 1 A ?_)))
 refine dP A (bB (z:=jI 0) (s:=1) (cs:=(mI [sv])) A Tryz.underlying26 A (by decide) A (by kernel_rfl) A) ?_
 intro g32
 refine aP A (cQ 3 A A A) (fI (i:=2) (cs':=#[jI mm.ins,mm.sv,mm.av,.slice (some ⟨g32,0,none⟩) 1 1]) A A A A A A A A A A A ?_)
 refine bR (cF (aP A (aF (cs:=[jI mm.ins,mm.sv,mm.av,.slice (some ⟨g32,0,none⟩) 1 1]) A A A A A (aD 2 A 0 A)) ?_))
 refine bI (cs':=#[jI mm.ins,mm.sv,mm.av,.slice (some ⟨g32,0,none⟩) 1 1]) (i:=3) (off:=0) (us:=[jI mm.ins,mm.sv,mm.av,.slice (some ⟨g32,0,none⟩) 1 1]) A A A A A A A (aA A (aA o1q (aA o2q (aA A bA)))) A A A (aU 1 A ?_)
 refine aV ?_
 have hyes:mtO a b=some (mm.gs,sv):=hJ.fin (by omega) hjn
 have hcpm:=((hG1.trans hG2).trans hGm).cp
 have hss0:mm.ss=[]:=List.map_eq_nil_iff.1 hcpm.ss
 refine cY (fun w hm=>(aG 0 A w hm).one) (fun hw2=>?_)
 refine aZ 6 [3,0,1] A A (by decide) ?_
 refine cB 2 A ?_
 exact bV (rs:=[.cell 4 28,.tmp 5]) (vs:=[.agg #[jI mm.ins,mm.sv,mm.av,.slice (some ⟨g32,0,none⟩) 1 1],.bool true]) (post:=[bigE [bigE ps,rowE 3 1 (.slice (some ⟨g32,0,none⟩) 1 1) 1 (mI [sv])]]) rfl ⟨⟨b3,0,[jI mm.ins,mm.sv,mm.av,.slice (some ⟨g32,0,none⟩) 1 1],rfl,rfl,by kernel_rfl,by kernel_rfl,aD 1 rfl 0 rfl⟩,rfl,trivial⟩ rfl (eJ [0] rfl) ⟨_,(Nt.mk mm.ins mm.sv mm.av (.slice (some ⟨g32,0,none⟩) 1 1) mm.ss mm.gs ([sv])),by rw[hyes];rfl,rfl,fun w hw=>⟨(hpb w (aX hw cL)).1.sq,(hpb w (aX hw cL)).1.xs,(hpb w (aX hw cL)).1.an,bT (aX hw (dK cL))⟩,⟨o1q,o2q,hw2⟩,fun r e=>by rw[hyes] at e;cases e;exact⟨hcpm.ins,hss0,rfl,rfl⟩⟩
 have hnone:=Option.isNone_iff_eq_none.1 (by simpa using h21)
 rw[hf1,←hg1] at hnone
 have hno:mtO a b=none:=MitI.fail hc (k:=1) (by decide) (.one (pa:=r1.2) hr1) (i:=b.gs.length) (by show impO a.fst (b.gs.take b.gs.length) r1.1 (lfO a.fst)=none;rw[List.take_length];exact hnone)
 refine bI (cs':=#[jI m2.ins,m2.sv,m2.av,m2.ov]) (i:=1) (off:=0) (us:=[jI m2.ins,m2.sv,m2.av,m2.ov]) A A A A A A A (aA A (aA o1m2 (aA o2m2 (aA o3m2 bA)))) A A A (aU 2 A (aC (bD 2 A (aR A (cF ?_)))))
 refine aP A (dQ (cs:=#[jI 0,.slice none 0 0,.slice none 0 0,.slice none 0 0]) A A A) (bI (cs':=#[jI 0,.slice none 0 0,.slice none 0 0,.slice none 0 0]) (i:=3) (off:=0) (us:=[jI 0,.slice none 0 0,.slice none 0 0,.slice none 0 0]) A A A A A A A (aA A (aA A (aA A (aA A bA)))) A A A ?_)
 refine aU 1 A ?_
 refine aV (aL ?_)
 refine aZ 6 [3] A A (by decide) ?_
 refine cZ [bigE [],eB9 b3] eW ?_
 exact bV (rs:=[.cell 4 28,.tmp 5]) (vs:=[.agg #[jI 0,.slice none 0 0,.slice none 0 0,.slice none 0 0],.bool false]) (post:=[bigE []]) rfl ⟨⟨b3,0,[jI 0,.slice none 0 0,.slice none 0 0,.slice none 0 0],rfl,rfl,by kernel_rfl,by kernel_rfl,aD 1 rfl 0 rfl⟩,rfl,trivial⟩ rfl (eJ [0] rfl) ⟨_,nt0,by rw[hno];rfl,rfl,fun w _=>⟨dN (w0:=w) (l:=[]) w (Mem.refl w),(fun s hs=>by cases hs),dN (w0:=w) (l:=[]) w (Mem.refl w),dN (w0:=w) (l:=[]) w (Mem.refl w)⟩,⟨rfl,rfl,rfl⟩,.none hno⟩
 have hnone:=Option.isNone_iff_eq_none.1 (by simpa using h16)
 have hno:mtO a b=none:=by rw[pR hc];unfold mitO;rw[hnone];rfl
 refine cR A (bP (z:=.agg #[jI 0,.slice none 0 0,.slice none 0 0,.slice none 0 0]) A A) ?_
 intro b33
 refine bI (cs':=#[jI m1.ins,m1.sv,m1.av,m1.ov]) (i:=0) (off:=0) (us:=[jI m1.ins,m1.sv,m1.av,m1.ov]) A A A A A A A (aA A (aA o1m1 (aA o2m1 (aA o3m1 bA)))) A A A (aU 2 A (aC (bD 2 A (aR A (cF ?_)))))
 refine aP A (dQ (cs:=#[jI 0,.slice none 0 0,.slice none 0 0,.slice none 0 0]) A A A) (bI (cs':=#[jI 0,.slice none 0 0,.slice none 0 0,.slice none 0 0]) (i:=2) (off:=0) (us:=[jI 0,.slice none 0 0,.slice none 0 0,.slice none 0 0]) A A A A A A A (aA A (aA A (aA A (aA A bA)))) A A A ?_)
 refine aU 1 A ?_
 refine aV (aL ?_)
 refine aZ 5 [2] A A (by decide) ?_
 refine cZ [bigE [],eB9 b3] eW ?_
 exact bV (rs:=[.cell 4 28,.tmp 5]) (vs:=[.agg #[jI 0,.slice none 0 0,.slice none 0 0,.slice none 0 0],.bool false]) (post:=[bigE []]) rfl ⟨⟨b3,0,[jI 0,.slice none 0 0,.slice none 0 0,.slice none 0 0],rfl,rfl,by kernel_rfl,by kernel_rfl,aD 1 rfl 0 rfl⟩,rfl,trivial⟩ rfl (eJ [0] rfl) ⟨_,nt0,by rw[hno];rfl,rfl,fun w _=>⟨dN (w0:=w) (l:=[]) w (Mem.refl w),(fun s hs=>by cases hs),dN (w0:=w) (l:=[]) w (Mem.refl w),dN (w0:=w) (l:=[]) w (Mem.refl w)⟩,⟨rfl,rfl,rfl⟩,.none hno⟩
 have hbn:=oN h5
 refine aM 33 A ?_
 refine aU 3 A (aR A (cF (aP A (dQ (cs:=#[jI 0,.slice none 0 0,.slice none 0 0,.slice none 0 0]) A A A) ?_)))
 refine bI (cs':=#[jI 0,.slice none 0 0,.slice none 0 0,.slice none 0 0]) (i:=0) (off:=0) (us:=[jI 0,.slice none 0 0,.slice none 0 0,.slice none 0 0]) A A A A A A A (aA A (aA A (aA A (aA A bA)))) A A A (aU 1 A ?_)
 refine aV (aL ?_)
 have hno:mtO a b=none:=jD (fun c=>by first|exact han c.ha|exact hbn c.hb|(have c1:=c.ins;have c2:=c.ss;have c3:=c.os;have c4:=c.c20;omega)|(have c5:=c.kd i (by omega);omega))
 refine aZ 3 [0] A A (by decide) ?_
 refine cZ [bigE [],eB9 b3] eW ?_
 exact bV (rs:=[.cell 4 28,.tmp 5]) (vs:=[.agg #[jI 0,.slice none 0 0,.slice none 0 0,.slice none 0 0],.bool false]) (post:=[bigE []]) rfl ⟨⟨b3,0,[jI 0,.slice none 0 0,.slice none 0 0,.slice none 0 0],rfl,rfl,by kernel_rfl,by kernel_rfl,aD 1 rfl 0 rfl⟩,rfl,trivial⟩ rfl (eJ [0] rfl) ⟨_,nt0,by rw[hno];rfl,rfl,fun w _=>⟨dN (w0:=w) (l:=[]) w (Mem.refl w),(fun s hs=>by cases hs),dN (w0:=w) (l:=[]) w (Mem.refl w),dN (w0:=w) (l:=[]) w (Mem.refl w)⟩,⟨rfl,rfl,rfl⟩,.none hno⟩
 have han:=oN h4
 refine aM 34 A ?_
 refine aU 6 A (aR A (cF (aP A (dQ (cs:=#[jI 0,.slice none 0 0,.slice none 0 0,.slice none 0 0]) A A A) ?_)))
 refine bI (cs':=#[jI 0,.slice none 0 0,.slice none 0 0,.slice none 0 0]) (i:=0) (off:=0) (us:=[jI 0,.slice none 0 0,.slice none 0 0,.slice none 0 0]) A A A A A A A (aA A (aA A (aA A (aA A bA)))) A A A (aU 1 A ?_)
 refine aV (aL ?_)
 have hno:mtO a b=none:=jD (fun c=>by first|exact han c.ha|exact hbn c.hb|(have c1:=c.ins;have c2:=c.ss;have c3:=c.os;have c4:=c.c20;omega)|(have c5:=c.kd i (by omega);omega))
 refine aZ 3 [0] A A (by decide) ?_
 refine cZ [bigE [],eB9 b3] eW ?_
 exact bV (rs:=[.cell 4 28,.tmp 5]) (vs:=[.agg #[jI 0,.slice none 0 0,.slice none 0 0,.slice none 0 0],.bool false]) (post:=[bigE []]) rfl ⟨⟨b3,0,[jI 0,.slice none 0 0,.slice none 0 0,.slice none 0 0],rfl,rfl,by kernel_rfl,by kernel_rfl,aD 1 rfl 0 rfl⟩,rfl,trivial⟩ rfl (eJ [0] rfl) ⟨_,nt0,by rw[hno];rfl,rfl,fun w _=>⟨dN (w0:=w) (l:=[]) w (Mem.refl w),(fun s hs=>by cases hs),dN (w0:=w) (l:=[]) w (Mem.refl w),dN (w0:=w) (l:=[]) w (Mem.refl w)⟩,⟨rfl,rfl,rfl⟩,.none hno⟩
inductive Der (CS:List (List Int)) (ps:List Int):Int→Prop
  | base {l:Int}:l≠0→valI ps l=1→Der CS ps l
  | unit {c:List Int}{l:Int}:c∈CS→l∈c→(∀x∈c,x≠l→Der CS ps (-x))→Der CS ps l
def Conf (CS:List (List Int)) (ps:List Int):Prop:=∃c∈CS,∀x∈c,Der CS ps (-x)
theorem Der.mono {CS CS':List (List Int)}{ps:List Int}(h:∀c∈CS,c∈CS') {l:Int}(hd:Der CS ps l):Der CS' ps l:=by
  induction hd with
  | base h0 hv=>exact .base h0 hv
  | unit hc hl _ ih=>exact .unit (h _ hc) hl ih
theorem Conf.mono {CS CS':List (List Int)}{ps:List Int}(h:∀c∈CS,c∈CS') (hd:Conf CS ps):Conf CS' ps:=by
  obtain⟨c,h1,h2⟩:=hd
  exact⟨c,h c h1,fun x hx=>(h2 x hx).mono h⟩
def DerTo (CS:List (List Int)) (ps zs:List Int):Prop:=∀l,l≠0→valI zs l=1→Der CS ps l
theorem Der.trans {CS:List (List Int)}{ps qs:List Int}(h:DerTo CS qs ps) {l:Int}(hd:Der CS ps l):Der CS qs l:=by
  induction hd with
  | base h0 hv=>exact h _ h0 hv
  | unit hc hl _ ih=>exact .unit hc hl ih
theorem Conf.trans {CS:List (List Int)}{ps qs:List Int}(h:DerTo CS qs ps) (hd:Conf CS ps):Conf CS qs:=by
  obtain⟨c,h1,h2⟩:=hd
  exact⟨c,h1,fun x hx=>(h2 x hx).trans h⟩
theorem DerTo.start (CS:List (List Int)) (ps:List Int):DerTo CS ps ps:=fun _ h0 hv=>.base h0 hv
theorem DerTo.trans {CS:List (List Int)}{ps qs zs:List Int}(h:DerTo CS qs ps) (h2:DerTo CS ps zs):DerTo CS qs zs:=fun l h0 hv=>(h2 l h0 hv).trans h
theorem zL {zs:List Int}{d l:Int}(hd:d≠0) (hl:l≠0) (hv:valI (decL zs d) l=1):l=d∨valI zs l=1:=by
  by_cases c:l=d
  · exact .inl c
  · right
    unfold decL at hv
    unfold valI at hv ⊢
    by_cases p:0<d
    · rw [if_pos p] at hv
      by_cases q:l<0
      · rw [if_pos q] at hv ⊢
        by_cases r:(d-1).toNat=(-l-1).toNat
        · exfalso
          rw[r,List.getD_eq_getElem?_getD,List.getElem?_set] at hv
          split at hv
          · split at hv
            · have : -(1:Int)=1:=hv;omega
            · have : -(0:Int)=1:=hv;omega
          · contradiction
        · rwa [eO r] at hv
      · rw [if_neg q] at hv ⊢
        rwa [eO (by omega)] at hv
    · rw [if_neg p] at hv
      by_cases q:l<0
      · rw [if_pos q] at hv ⊢
        rwa [eO (by omega)] at hv
      · rw [if_neg q] at hv ⊢
        by_cases r:(-d-1).toNat=(l-1).toNat
        · exfalso
          rw[r,List.getD_eq_getElem?_getD,List.getElem?_set] at hv
          split at hv
          · split at hv
            · have:(-1:Int)=1:=hv;omega
            · have:(0:Int)=1:=hv;omega
          · contradiction
        · rwa [eO r] at hv
theorem kP {zs:List Int}{x:Int}(h0:x≠0) (h:valI zs x = -1):valI zs (-x)=1:=by rw[jB zs h0,h];rfl
theorem DerTo.step {CS:List (List Int)}{ps zs xs:List Int}{u:Int}{cf:Bool}(h:DerTo CS ps zs) (hx:xs∈CS) (hz:∀x∈xs,x≠0) (hu:UOk xs zs u cf) (h0:u≠0):DerTo CS ps (decL zs u):=fun l hl hv=>by
  rcases zL h0 hl hv with e|e
  · subst e
    obtain⟨-, -,⟨i,hi,e⟩,h4⟩:=hu.unit h0
    refine .unit hx (by rw[←e];exact bS hi) (fun x hxm hne=>?_)
    obtain⟨j,hj,rfl⟩:=List.mem_iff_getElem.1 hxm
    have e1:xs.getD j 0=xs[j]:=by rw[List.getD_eq_getElem?_getD,List.getElem?_eq_getElem hj];rfl
    have:=h4 j hj
    rw[e1] at this
    exact h _ (by have:=hz _ hxm;omega) (kP (hz _ hxm) (this.resolve_left hne))
  · exact h l hl e
theorem DerTo.conf {CS:List (List Int)}{ps zs xs:List Int}{u:Int}(h:DerTo CS ps zs) (hx:xs∈CS) (hz:∀x∈xs,x≠0) (hu:UOk xs zs u true):Conf CS ps:=by
  refine⟨xs,hx,fun x hxm=>?_⟩
  obtain⟨j,hj,rfl⟩:=List.mem_iff_getElem.1 hxm
  have e1:xs.getD j 0=xs[j]:=by rw[List.getD_eq_getElem?_getD,List.getElem?_eq_getElem hj];rfl
  have:=(hu.conf rfl).2 j hj
  rw[e1] at this
  exact h _ (by have:=hz _ hxm;omega) (kP (hz _ hxm) this)
theorem Ga {CS:List (List Int)}{ps out:List Int}(hz:∀c∈CS,∀x∈c,x≠0) (hf:∀c∈CS,Fx c out) (he:∀l,l≠0→valI ps l=1→valI out l=1) {l:Int}(hd:Der CS ps l):valI out l=1:=by
  induction hd with
  | base h0 hv=>exact he _ h0 hv
  | @unit c l hc hl _ ih=>
    have key:∀x∈c,x≠l→valI out x = -1:=fun x hx hne=>by
      have h1:=ih x hx hne
      rw[jB out (hz c hc x hx)] at h1;omega
    rcases hf c hc with⟨i,hi,hv⟩|⟨i,j,hi,hj,h1,h2,h3⟩
    · by_cases e : c.getD i 0 = l
      · rw[←e];exact hv
      · have:=key _ (bS hi) e;omega
    · exfalso
      by_cases e:c.getD i 0=l
      · have:=key _ (bS hj) (fun q=>h3 (e.trans q.symm));omega
      · have:=key _ (bS hi) e;omega
theorem Ec {CS:List (List Int)}{ps out:List Int}(hz:∀c∈CS,∀x∈c,x≠0) (hf:∀c∈CS,Fx c out) (he:∀l,l≠0→valI ps l=1→valI out l=1):¬Conf CS ps:=by
  rintro ⟨c,hc,hx⟩
  have key:∀x∈c,valI out x = -1:=fun x hxm=>by
    have h1:=Ga hz hf he (hx x hxm)
    rw[jB out (hz c hc x hxm)] at h1;omega
  rcases hf c hc with⟨i,hi,hv⟩|⟨i,j,hi,hj,h1,h2,h3⟩
  · have:=key _ (bS (d:=(0:Int)) hi);omega
  · have:=key _ (bS (d:=(0:Int)) hi);omega
def RUP (n:Int) (CS:List (List Int)) (D:List Int):Prop:=∀qs,PsOk n qs→(∀d∈D,valI qs d=1)→Conf CS qs
def Dv (n:Int) (CS:List (List Int)) (D own:List Int):Prop:=∀qs,PsOk n qs→(∀d∈D,valI qs d=1)→DerTo CS qs own
theorem Dv.start (n:Int) (CS:List (List Int)) (N:Nat):Dv n CS [] (List.replicate N 0):=fun qs _ _ l h0 hv=>by
  exfalso
  have e:∀k,(List.replicate N (0:Int)).getD k 0=0:=fun k=>by rw[List.getD_eq_getElem?_getD,List.getElem?_replicate];split<;>rfl
  unfold valI at hv
  rw[e,e] at hv
  split at hv<;>omega
theorem Dv.child {n:Int}{CS:List (List Int)}{D zs:List Int}(h:Dv n CS D zs) {d:Int}(hd:d≠0):Dv n CS (D++[d]) (decL zs d):=fun qs hq hs l h0 hv=>by
  rcases zL hd h0 hv with e|e
  · subst e;exact .base h0 (hs l (List.mem_append_right _ (List.mem_singleton.2 rfl)))
  · exact h qs hq (fun x hx=>hs x (List.mem_append_left _ hx)) l h0 e
theorem Dv.next {n:Int}{CS:List (List Int)}{D own out:List Int}(h:Dv n CS D own) (h2:DerTo CS own out):Dv n CS D out:=fun qs hq hs=>(h qs hq hs).trans h2
theorem Dv.rup {n:Int}{CS:List (List Int)}{D own:List Int}(h:Dv n CS D own) (hc:Conf CS own):RUP n CS D:=fun qs hq hs=>hc.trans (h qs hq hs)
theorem RUP.mono {n:Int}{CS CS':List (List Int)}{D:List Int}(h:RUP n CS D) (hs:∀c∈CS,c∈CS'):RUP n CS' D:=fun qs hq hd=>(h qs hq hd).mono hs
def ngL (D:List Int):List Int:=D.map fun x=>-x
theorem Bf {n:Int}{CS:List (List Int)}{D:List Int}{a:Int}(ha:a≠0) (hD:∀d∈D,d≠0) (h1:ngL (D++[-a])∈CS) (h2:ngL (D++[a])∈CS):RUP n CS D:=fun qs hq hs=>by
  have hb:∀d∈D,Der CS qs d:=fun d hd=>.base (hD d hd) (hs d hd)
  have hda:Der CS qs a:=by
    refine .unit h1 (by unfold ngL;rw[List.map_append,List.map_singleton,Int.neg_neg];exact List.mem_append_right _ (List.mem_singleton.2 rfl)) (fun x hx hne=>?_)
    unfold ngL at hx
    rw[List.map_append,List.map_singleton,Int.neg_neg,List.mem_append,List.mem_singleton] at hx
    obtain⟨d,hd,rfl⟩:=List.mem_map.1 (hx.resolve_right hne)
    rw[Int.neg_neg];exact hb d hd
  refine⟨_,h2,fun x hx=>?_⟩
  unfold ngL at hx
  rw[List.map_append,List.map_singleton,List.mem_append,List.mem_singleton] at hx
  rcases hx with hx|hx
  · obtain ⟨d, hd, rfl⟩ := List.mem_map.1 hx
    rw[Int.neg_neg];exact hb d hd
  · rw[hx,Int.neg_neg];exact hda
def PrOk (n:Int) (CS L:List (List Int)):Prop:=∀i,i<L.length→∃D,L.getD i []=ngL D∧RUP n (CS++L.take i) D
theorem PrOk.nil (n:Int) (CS:List (List Int)):PrOk n CS []:=fun i hi=>absurd hi (Nat.not_lt_zero _)
theorem PrOk.app {n:Int}{CS L:List (List Int)}(h:PrOk n CS L) {D:List Int}(hD:RUP n (CS++L) D):PrOk n CS (L++[ngL D]):=fun i hi=>by
  rw[List.length_append,List.length_singleton] at hi
  by_cases c:i<L.length
  · obtain ⟨D', e, hr⟩ := h i c
    exact⟨D',by rw[fZ c];exact e,by rw[List.take_append_of_le_length (by omega)];exact hr⟩
  · have : i = L.length := by omega
    subst this
    exact⟨D,by rw[List.getD_eq_getElem?_getD,List.getElem?_concat_length];rfl,by rw[List.take_left'];exact hD;rfl⟩
def pw (F:Nat) (ps:List Int):Nat:=zeros ((ps.take F).drop 1)
theorem nB {xs:List Int}{k:Nat}:(xs.drop 1).getD k 0=xs.getD (1+k) 0:=by
  rw[List.getD_eq_getElem?_getD,List.getElem?_drop,←List.getD_eq_getElem?_getD]
theorem zQ {F:Nat}{xs ys:List Int}(hl:ys.length=xs.length) (he:∀k,k<xs.length→xs.getD k 0≠0→ys.getD k 0=xs.getD k 0):pw F ys≤pw F xs:=by
  refine kN _ _ (by rw[List.length_drop,List.length_drop,List.length_take,List.length_take,hl]) (fun k hk hx=>?_)
  rw[List.length_drop,List.length_take] at hk
  rw[nB,mD (by omega)] at hx ⊢
  rw[nB,mD (by omega)]
  exact he _ (by omega) hx
theorem yC {F:Nat}{xs:List Int}{k:Nat}{x:Int}(h1:1≤k) (hF:k<F) (hk:k<xs.length) (h0:xs.getD k 0=0) (hx:x≠0):pw F (xs.set k x)+1=pw F xs:=by
  unfold pw
  obtain⟨j,rfl⟩:∃j,k=1+j:=⟨k-1,by omega⟩
  rw[List.take_set,List.drop_set,if_neg (by omega),show 1+j-1=j by omega]
  exact iN _ _ _ (by rw[List.length_drop,List.length_take];omega) (by rw[nB,mD hF];exact h0) hx
def WPre (rs:List CRow) (F K:Nat) (own:List Int) (v:Int):Prop:=(SatF rs own∧v+zeros own+1≤600)∨v+2 ^ (pw F own+1)+K≤600
structure WPost (n:Int) (rs:List CRow) (F:Nat) (own:List Int) (v v' code:Int) (found:List Int):Prop where
  r:(code=1∧Full n found∧SatF rs found)∨(code=2∧NoFs n rs own∧v'≤v+2 ^ (pw F own+1)-1)
  mono:v≤v'∧v'≤600
theorem nH {rs:List CRow}{F K:Nat}{own:List Int}{v:Int}(h:WPre rs F K own v):v<600:=by
  rcases h with⟨-,h⟩|h
  · omega
  · have:=Fg (pw F own+1);omega
section
variable {n:Int}{rs:List CRow}{F K:Nat}{own zs:List Int}{v:Int}{k:Nat}
theorem xS (hr:ClOk n rs) (hF:n≤F+K) (hkey:∀zs,PsOk n zs→(∀q,q<rs.length→Fx (rs.getD q crow0).xs zs)→(∀k,k<F→k<zs.length→zs.getD k 0≠0)→SatF rs zs)
    (hp:PsOk n own) (hz:PFx n rs own zs) (hk:k<zs.length) (h0:zs.getD k 0=0) (hb:∀i,i<k→zs.getD i 0≠0) (h00:zs.getD 0 0≠0) (h:WPre rs F K own v) {x:Int}(hx:x=1∨x = -1):WPre rs F K (zs.set k x) (v+1):=by
  have hk1:1≤k:=by
    by_cases e:k=0
    · subst e;exact absurd h0 h00
    · omega
  have hx0:x≠0:=by omega
  have hzs:=iN zs k x hk h0 hx0
  have hsx:∀i,i<zs.length→zs.getD i 0≠0→(zs.set k x).getD i 0=zs.getD i 0:=fun i hi hne=>eO (fun e=>hne (by rw[←e];exact h0))
  have hds:SatF rs zs→SatF rs (zs.set k x):=fun hs=>nM hr List.length_set hz.ok hsx hs
  rcases h with⟨hs,hv⟩|hv
  · have h1 := kN own zs hz.len hz.ext
    exact .inl ⟨hds (nM hr hz.len hp hz.ext hs),by omega⟩
  · by_cases hkF : k < F
    · have h1 := yC hk1 hkF hk h0 hx0
      have h2:=zQ (F:=F) hz.len hz.ext
      have h3:=qN (show pw F (zs.set k x)+1+1≤pw F own+1 by omega)
      rw[Int.pow_succ] at h3
      have h4:=Fg (pw F (zs.set k x)+1)
      exact .inr (by omega)
    · have hleaf : ∀ i, i < F → i < zs.length → zs.getD i 0 ≠ 0 := fun i hi _ => hb i (by omega)
      have h1:=xQ hleaf
      have h2:=Fg (pw F own+1)
      have hzl:=hz.ok.1
      exact .inl ⟨hds (hkey zs hz.ok hz.fx hleaf),by omega⟩
theorem oZ (hr:ClOk n rs) (hF:n≤F+K) (hkey:∀zs,PsOk n zs→(∀q,q<rs.length→Fx (rs.getD q crow0).xs zs)→(∀k,k<F→k<zs.length→zs.getD k 0≠0)→SatF rs zs)
    (hp:PsOk n own) (hz:PFx n rs own zs) (hk:k<zs.length) (h0:zs.getD k 0=0) (hb:∀i,i<k→zs.getD i 0≠0) (h00:zs.getD 0 0≠0) (h:WPre rs F K own v) (hno:NoFs n rs (zs.set k (-1))) {v1:Int}(hv1:v1≤v+1+2 ^ (pw F (zs.set k (-1))+1)-1) :
    WPre rs F K (zs.set k 1) v1∧v1+2 ^ (pw F (zs.set k 1)+1)-1≤v+2 ^ (pw F own+1)-1:=by
  have hk1:1≤k:=by
    by_cases e:k=0
    · subst e;exact absurd h0 h00
    · omega
  have hokx:PsOk n (zs.set k (-1)):=⟨by rw[List.length_set];exact hz.ok.1,fun i hi=>by
    rw[List.length_set] at hi
    by_cases e:i=k
    · subst e;rw[eR hi];omega
    · rw[eO (fun h=>e h.symm)];exact hz.ok.2 i hi⟩
  have hsx:∀i,i<zs.length→zs.getD i 0≠0→(zs.set k (-1)).getD i 0=zs.getD i 0:=fun i hi hne=>eO (fun e=>hne (by rw[←e];exact h0))
  have hnot:¬SatF rs zs:=fun hs=>by
    obtain⟨fs,f1,f2,f3⟩:=Cr hr hokx (nM hr List.length_set hz.ok hsx hs)
    exact hno fs f1 f2 f3
  have hkF:k<F:=by
    apply Decidable.byContradiction
    intro hc
    exact hnot (hkey zs hz.ok hz.fx (fun i hi _=>hb i (by omega)))
  have h1:=yC (x:=-1) hk1 hkF hk h0 (by decide)
  have h1b:=yC (x:=1) hk1 hkF hk h0 (by decide)
  have h2:=zQ (F:=F) hz.len hz.ext
  have h3:=qN (show pw F (zs.set k 1)+1+1≤pw F own+1 by omega)
  rw[Int.pow_succ] at h3
  rw[show pw F (zs.set k (-1))=pw F (zs.set k 1) by omega] at hv1
  rcases h with⟨hs, -⟩|hv
  · exact absurd (nM hr hz.len hp hz.ext hs) hnot
  · exact⟨.inr (by omega),by omega⟩
end
abbrev xsL (rs:List CRow):List (List Int):=rs.map CRow.xs
structure PrS (n:Int) (rs:List CRow) (s:Sv):Prop where
  ok:PrOk n (xsL rs) (xsL s.pr)
  cl:∀r∈s.pr,LitOk n r.xs
structure WIn (n:Int) (rs:List CRow) (F K:Nat) (ds ps:List Int) (s:Sv):Prop where
  hps:PsOk n ps
  hds:∀i,i<ds.length→ds.getD i 0≠0∧-n≤ds.getD i 0∧ds.getD i 0≤n
  len:ds.length+zeros (ownL ds ps)≤400
  pre:WPre rs F K (ownL ds ps) s.v
  pr:(s.pr.length:Int)≤s.v
  v0:0≤s.v
  dv:Dv n (xsL rs) ds (ownL ds ps)
  prs:PrS n rs s
structure WCtx (n:Int) (rs:List CRow) (F K:Nat):Prop where
  hr:ClOk n rs
  hF:n≤F+K
  hkey:∀zs,PsOk n zs→(∀q,q<rs.length→Fx (rs.getD q crow0).xs zs)→(∀k,k<F→k<zs.length→zs.getD k 0≠0)→SatF rs zs
  h00:∀zs,PsOk n zs→(∀q,q<rs.length→Fx (rs.getD q crow0).xs zs)→zs.getD 0 0≠0
def LoopW (n:Int) (rs:List CRow) (F:Nat) (own zs:List Int) (k:Nat) (v0:Int) (i:Nat) (v1:Int):Prop:=
  (i=0∧v1=v0+1)∨(i=1∧NoFs n rs (zs.set k (-1))∧v0+1≤v1∧v1≤v0+1+2 ^ (pw F (zs.set k (-1))+1)-1)∨(i=2∧NoFs n rs zs∧v0+1≤v1∧v1≤v0+2 ^ (pw F own+1)-1)
section
variable {n:Int}{rs:List CRow}{F K:Nat}{own zs ds:List Int}{k i:Nat}{v0 v1 d:Int}
theorem sC (c:WCtx n rs F K) (f:SFree n rs own zs k) (hv:WPre rs F K own v0) (hI:LoopW n rs F own zs k v0 i v1) (hi:i<2) (hd:d=[-((k:Int)+1),(k:Int)+1].getD i 0) :
    WPre rs F K (decL zs d) v1∧zeros (decL zs d)+1=zeros zs∧(d≠0∧-n≤d∧d≤n)∧v0+1≤v1:=by
  have hl:=f.hz.ok.1
  have hk:=f.hk
  rcases hI with⟨e,h1⟩|⟨e,h1,h2,h3⟩|⟨e, -⟩
  · subst e
    have hd0:d = -((k:Int)+1):=hd
    subst hd0
    rw[Ak,h1]
    exact⟨xS c.hr c.hF c.hkey f.hp f.hz f.hk f.h0 f.hb (c.h00 zs f.hz.ok f.hz.fx) hv (.inr rfl),iN _ _ _ f.hk f.h0 (by decide),by omega,by omega⟩
  · subst e
    have hd0:d=(k:Int)+1:=hd
    subst hd0
    rw[Aj]
    exact⟨(oZ c.hr c.hF c.hkey f.hp f.hz f.hk f.h0 f.hb (c.h00 zs f.hz.ok f.hz.fx) hv h1 h3).1,iN _ _ _ f.hk f.h0 (by decide),by omega,h2⟩
  · omega
theorem qE (c:WCtx n rs F K) (f:SFree n rs own zs k) (hv:WPre rs F K own v0) (hI:LoopW n rs F own zs k v0 i v1) (hi:i<2) (hd:d=[-((k:Int)+1),(k:Int)+1].getD i 0) {v2:Int}{fo:List Int}(hp:WPost n rs F (decL zs d) v1 v2 2 fo) :
    LoopW n rs F own zs k v0 (i+1) v2:=by
  have hm:=hp.mono.1
  rcases hp.r with⟨e, -⟩|⟨-,hno,hv2⟩
  · exact absurd e (by decide)
  rcases hI with⟨e,h1⟩|⟨e,h1,h2,h3⟩|⟨e, -⟩
  · subst e
    have hd0:d = -((k:Int)+1):=hd
    subst hd0
    rw[Ak] at hno hv2
    exact .inr (.inl ⟨rfl,hno,by omega,by omega⟩)
  · subst e
    have hd0:d=(k:Int)+1:=hd
    subst hd0
    rw[Aj] at hno hv2
    have h4:=(oZ c.hr c.hF c.hkey f.hp f.hz f.hk f.h0 f.hb (c.h00 zs f.hz.ok f.hz.fx) hv h1 h3).2
    exact .inr (.inr ⟨rfl,Dj f.hk f.hz.ok.1 f.h0 h1 hno,by omega,by omega⟩)
  · omega
theorem qF (c:WCtx n rs F K) (hI:LoopW n rs F own zs k v0 i v1) {v2 cd:Int}{fo:List Int}(hm:v0≤v1) (hp:WPost n rs F (decL zs d) v1 v2 cd fo) (hc:cd≠2):WPost n rs F own v0 v2 cd fo:=by
  have h:=hp.mono
  rcases hp.r with⟨e,h1,h2⟩|⟨e, -⟩
  · exact⟨.inl ⟨e,h1,h2⟩,by omega,by omega⟩
  · exact absurd e hc
theorem sD (c:WCtx n rs F K) {out:List Int}{ok:Bool}(hok:POk n rs own out ok) (hI:LoopW n rs F own out k v0 2 v1) (h6:v1≤600) {fo:List Int}:WPost n rs F own v0 v1 2 fo:=by
  rcases hI with⟨e, -⟩|⟨e, -⟩|⟨-,h1,h2,h3⟩
  · exact absurd e (by decide)
  · exact absurd e (by decide)
  · exact⟨.inr ⟨rfl,Fi hok h1,h3⟩,by omega,h6⟩
theorem Ay {out:List Int}{ok:Bool}(hok:POk n rs own out ok) (hk:ok=false) (hv:v0<600) {fo:List Int}:WPost n rs F own v0 (v0+1) 2 fo:=
  ⟨.inr ⟨rfl,vW hok hk,by have h1:=Fg (pw F own);have e:(2:Int) ^ (pw F own+1)=2 ^ pw F own*2:=Int.pow_succ _ _;omega⟩,by omega,by omega⟩
theorem sB (c:WCtx n rs F K) {out:List Int}(hz:PFx n rs own out) (hf:∀i,i<out.length→out.getD i 0≠0) (hv:v0<600):WPost n rs F own v0 (v0+1) 1 out:=
  ⟨.inl ⟨rfl,⟨hz.ok,hf⟩,fx_sat c.hr hz.ok hz.fx hf⟩,by omega,by omega⟩
end
def LoopP (ds:List Int) (k i:Nat) (s:Sv):Prop:=(1≤i→ngL (ds++[-((k:Int)+1)])∈xsL s.pr)∧(2≤i→ngL (ds++[(k:Int)+1])∈xsL s.pr)
theorem LoopP.start (ds:List Int) (k:Nat) (s:Sv):LoopP ds k 0 s:=⟨fun h=>absurd h (by omega),fun h=>absurd h (by omega)⟩
def PrTo (n:Int) (rs:List CRow) (ds:List Int) (s s2:Sv) (cd:Int):Prop:=PrS n rs s2∧(∀c∈xsL s.pr,c∈xsL s2.pr)∧(cd=2→∃L0,xsL s2.pr=L0++[ngL ds])
theorem LoopP.next {n:Int}{rs:List CRow}{ds:List Int}{k i:Nat}{s1 s3:Sv}{d cd:Int}(h:LoopP ds k i s1) (hi:i<2) (hd:d=[-((k:Int)+1),(k:Int)+1].getD i 0) (hp:PrTo n rs (ds++[d]) s1 s3 cd) (hc:cd=2):LoopP ds k (i+1) s3:=by
  obtain⟨L0,e⟩:=hp.2.2 hc
  have hm:ngL (ds++[d])∈xsL s3.pr:=by rw[e];exact List.mem_append_right _ (List.mem_singleton.2 rfl)
  refine⟨fun _=>?_,fun h2=>?_⟩
  · by_cases c : i = 0
    · subst c;rw[show d = -((k:Int)+1) from hd] at hm;exact hm
    · exact hp.2.1 _ (h.1 (by omega))
  · have : i = 1 := by omega
    subst this;rw[show d=(k:Int)+1 from hd] at hm;exact hm
theorem PrTo.trans {n:Int}{rs:List CRow}{ds ds2:List Int}{s s1 s2:Sv}{cd:Int}(h:∀c∈xsL s.pr,c∈xsL s1.pr) (h2:PrTo n rs ds2 s1 s2 cd) (hc:cd≠2):PrTo n rs ds s s2 cd:=⟨h2.1,fun c hm=>h2.2.1 c (h c hm),fun e=>absurd e hc⟩
theorem yG {n:Int}{ds:List Int}(hl:ds.length≤400) (hd:∀i,i<ds.length→ds.getD i 0≠0∧-n≤ds.getD i 0∧ds.getD i 0≤n):LitOk n (ngL ds):=by
  refine⟨by unfold ngL;rw[List.length_map];exact hl,fun i hi=>?_⟩
  unfold ngL at hi ⊢
  rw[List.length_map] at hi
  have:=hd i hi
  rw[List.getD_eq_getElem?_getD,List.getElem?_eq_getElem hi,Option.getD_some] at this
  rw[List.getD_eq_getElem?_getD,List.getElem?_map,List.getElem?_eq_getElem hi]
  show -ds[i]≠0∧-n≤-ds[i]∧-ds[i]≤n
  omega
theorem PrTo.put {n:Int}{rs:List CRow}{ds:List Int}{s s1:Sv}{v:Int}{pv nv fv:Value}{fo:List Int}(h:∀c∈xsL s.pr,c∈xsL s1.pr) (hp:PrS n rs s1) (hl:LitOk n (ngL ds)) (hr:RUP n (xsL rs++xsL s1.pr) ds):PrTo n rs ds s (Sv.mk v pv (s1.pr++[CRow.mk nv (ngL ds)]) fv fo) 2:=by
  have e:xsL (s1.pr++[CRow.mk nv (ngL ds)])=xsL s1.pr++[ngL ds]:=by simp[xsL]
  refine⟨⟨by show PrOk n _ (xsL (s1.pr++[CRow.mk nv (ngL ds)]));rw[e];exact hp.ok.app hr,fun r hm=>?_⟩,fun c hm=>?_,fun _=>⟨_,e⟩⟩
  · rcases List.mem_append.1 hm with hm | hm
    · exact hp.cl r hm
    · rw[List.mem_singleton] at hm;subst hm;exact hl
  · show c ∈ xsL (s1.pr ++ [CRow.mk nv (ngL ds)])
    rw[e];exact List.mem_append_left _ (h c hm)
theorem PrTo.same {n:Int}{rs:List CRow}{ds:List Int}{s:Sv}{v:Int}{pv fv:Value}{fo:List Int}{cd:Int}(hp:PrS n rs s) (hc:cd≠2):PrTo n rs ds s (Sv.mk v pv s.pr fv fo) cd:=⟨⟨hp.ok,hp.cl⟩,fun _ h=>h,fun e=>absurd e hc⟩
theorem Cv {n:Int}{rs:List CRow}{ds own:List Int}{s:Sv}(h:Dv n (xsL rs) ds own) (hc:Conf (xsL rs) own):RUP n (xsL rs++xsL s.pr) ds:=(h.rup hc).mono fun c hm=>List.mem_append_left _ hm
theorem vO {n:Int}{rs:List CRow}{ds:List Int}{k:Nat}{s:Sv}(h:LoopP ds k 2 s) (hd:∀i,i<ds.length→ds.getD i 0≠0∧-n≤ds.getD i 0∧ds.getD i 0≤n):RUP n (xsL rs++xsL s.pr) ds:=
  Bf (a:=(k:Int)+1) (by omega) (fun d hm=>by
    obtain⟨i,hi,rfl⟩:=List.mem_iff_getElem.1 hm
    have:=(hd i hi).1
    rwa [List.getD_eq_getElem?_getD,List.getElem?_eq_getElem hi] at this) (List.mem_append_right _ (h.1 (by omega))) (List.mem_append_right _ (h.2 (by omega)))
open Go.RowKit
theorem Dq {n:Int}{xs:List Int}(h:LitOk n xs):∀x∈xs,x≠0:=fun x hx=>by
  obtain⟨i,hi,rfl⟩:=List.mem_iff_getElem.1 hx
  have:=(h.2 i hi).1
  rwa [List.getD_eq_getElem?_getD,List.getElem?_eq_getElem hi] at this
theorem nP (n:Int) (rs:List CRow) (v:Value) (ps:List Int) (pv:Value) (w:World) (hr:ClOk n rs) (hv:RdsCl w v rs) (hp:PsOk n ps) (hpv:RdsW w pv 1 ps.length (ps.map (Value.int .i64))) :
   Calls Tryz.prog 84 #[v,pv] w (Ret w (fun v' post=>∃(u:Value) (out:List Int) (ok:Bool),v'=.tuple #[u,.bool ok]∧post=[rI9 3 u out]∧POk n rs ps out ok∧(ok=true→PFx n rs ps out∧DerTo (xsL rs) ps out)∧(ok=false→Conf (xsL rs) ps))):=by
 have hn0:=hr.n0
 have hn1:=hr.n1
 have hrl:=hr.len
 have hpl:=hp.1
 refine bN (N:=43) (args:=[v,pv]) Tryz.func84 A A (bD 2 A (aC (bZ 1 A ?_)))
 refine eB A A A (aJ A A (fun w hm=>jF ps pv w (hpv.below hm.bel) (by omega))) ?_
 intro v1 p2 R3
 subst R3
 refine aU 1 A (aC (bD 1 A (bE ?_)))
 refine gT (α:=List Int) (β:=Bool) [0,1,4,5,6] A (fun zs ch=>[rI9 3 v1 zs]) (fun zs ch=>[(7,.bool ch)]) (fun zs ch=>PInv n rs ps zs∧DerTo (xsL rs) ps zs∧(ch=false→Done rs ps rs.length∧FxTo rs zs rs.length)) (fun zs ch=>2*zeros zs+(if ch=true then 1 else 0)) ps true ⟨yD hp,DerTo.start _ _,fun h=>by cases h⟩ (cT A) (dS A) ?_
 intro zs ch hi4
 obtain⟨hpz,hdz0,hdz⟩:=hi4
 refine aC (aC (bZ 1 A ?_))
 refine bW (fun h5=>?_) (fun h5=>?_)
 refine bR (aR A (bY (bE (bD 1 A (aC ?_)))))
 refine bZ 1 A (aP A (bC A Tryz.underlying33 A (aE hv.row)) (aU 1 A (bE ?_)))
 refine iC (α:=Nat) (β:=List Int) (γ:=Bool) [0,1,4,5,6,14,15,16] A (fun m ys c2=>[rI9 3 v1 ys]) (fun m ys c2=>[(7,.bool c2),(17,jI (m:Int))]) (fun m ys c2=>m≤rs.length∧PInv n rs ps ys∧DerTo (xsL rs) ps ys∧((c2=true∧zeros ys<zeros zs)∨(c2=false∧zeros ys≤zeros zs))∧Done rs ps m∧(c2=false→FxTo rs ys m)) (fun m ys c2=>rs.length-m) 0 zs false ⟨by omega,hpz,hdz0,.inr ⟨A,Nat.le_refl _⟩,Bx rs ps,fun _ q hq=>absurd hq (by omega)⟩ (cT A) (dS A) ?_
 intro m ys c2 hi6
 obtain⟨hm,hpi,hdr,hzc,hdn,hft⟩:=hi6
 have hyl:=hpi.ok.1
 refine cF ?_
 refine bQ A A A A A A (fun h7=>?_) (fun h7=>?_)
 refine bR (nF A (bY (fM (cF (aP A (dF 1 A A A A (aE hv.row)) ?_)))))
 refine aP A (bG (u:=(rs.getD m crow0).v) A A A (aE hv.row) (dG crowC (fun r=>r.v) (fun _=>A) rs crow0 (show m<_ by omega))) (aU 1 A (aC (bZ 2 A ?_)))
 refine eB A A A (aJ A A (fun w hm=>Ba n (rs.getD m crow0).xs ys (rs.getD m crow0).v v1 w ((hv.at (by omega)).below hm.bel) (aG 0 A w hm) (hr.ok m (by omega)) hpi.ok hn1)) ?_
 intro v8 p9 R10
 obtain⟨u,cf,rfl,rfl,huk,hfx⟩:=R10
 have hcm:(rs.getD m crow0).xs∈xsL rs:=List.mem_map.2 ⟨_,dO (show m<rs.length by omega),rfl⟩
 have hcz:∀x∈(rs.getD m crow0).xs,x≠0:=Dq (hr.ok m (by omega))
 refine aM 3 A (bW (fun h11=>?_) (fun h11=>?_))
 refine aU 2 A (aC (bD 1 A (aR A (cF ?_))))
 refine aU 2 A ?_
 refine aV (aL ?_)
 refine aQ (fL ?_)
 refine aQ (aQ ?_)
 refine aL (aQ ?_)
 refine aL ?_
 have hcf:cf=true:=by assumption
 rw[hcf] at huk
 refine cZ (rowE 3 1 (.slice none 0 0) 0 []::[rI9 3 v1 ys]) (fun w hm=>hm.nilRow 3 1) ?_
 exact bV (rs:=[.tmp 4,.tmp 5]) (vs:=[.slice none 0 0,.bool false]) (post:=[rowE 3 1 (.slice none 0 0) 0 []]) A ⟨A,A,trivial⟩ A (.cons_cons _ (List.nil_sublist _)) ⟨.slice none 0 0,[],false,A,A,Da hr hpi (by omega) huk,fun h=>Bool.noConfusion h,fun _=>hdr.conf hcm hcz (by first|exact huk|(have hu9:=(huk.conf rfl).1;rw[hu9] at huk ⊢;exact huk))⟩
 refine aU 2 A (aC (bD 1 A (aS A (bY ?_))))
 refine aC (aC (bZ 1 A ?_))
 refine fJ A A A A A A (fun h12=>?_) (fun h12=>?_)
 refine bR (aR A (cF ?_))
 have hur:=huk.rng (hr.ok m (by omega)) (by omega)
 refine aM 2 A (aP A (iM A A A) (aP A (dF 1 A A A A (aG 0 A)) ?_))
 refine eN (i:=0) (n':=(ys.set ((u-1).toNat) 1).length) (xs':=(mI (ys.set ((u-1).toNat) 1))) A A A A A A A A (by first|omega|(simp only[List.length_set];omega)) List.length_set.symm (fB _ _ _) A (bR (bJ (aU 1 A (aC (bZ 1 A ?_)))))
 refine bQ A A A A A A (fun h13=>absurd h13 (by omega)) (fun h13=>?_)
 refine bR (hH A (cK (bJ (aP A (dM A A A) (dJ 1 A ?_)))))
 obtain⟨g1,g2,g3⟩:=Db hr hpi (by omega) huk (by omega)
 exact cI (m+1) (ys.set ((u-1).toNat) 1) true ⟨by omega,g1,by have h9:=hdr.step hcm hcz huk (by omega);unfold decL at h9;rw[if_pos (by omega)] at h9;exact h9,.inl ⟨A,by rcases hzc with⟨_,h9⟩|⟨_,h9⟩<;>omega⟩,tA hr hpi (by omega) huk (by omega),fun h9=>by cases h9⟩ (by omega) (cT A) (dS A)
 refine bR (aS A (bY (aC (bZ 1 A ?_))))
 refine bQ A A A A A A (fun h14=>?_) (fun h14=>?_)
 refine bR (aR A (cF ?_))
 have hur:=huk.rng (hr.ok m (by omega)) (by omega)
 refine aM 2 A (aP A (iG A A (by omega) (by omega)) (aP A (iM A A A) (aP A (dF 1 A A A A (aG 0 A)) ?_)))
 refine eN (i:=0) (n':=(ys.set (((-u)-1).toNat) (-1)).length) (xs':=(mI (ys.set (((-u)-1).toNat) (-1)))) A A A A A A A A (by first|omega|(simp only[List.length_set];omega)) List.length_set.symm (fB _ _ _) A (bR (bJ (dJ 1 A (cK (bJ (aP A (dM A A A) (dJ 1 A ?_)))))))
 obtain⟨g1,g2,g3⟩:=Dc hr hpi (by omega) huk (by omega)
 exact cI (m+1) (ys.set (((-u)-1).toNat) (-1)) true ⟨by omega,g1,by have h9:=hdr.step hcm hcz huk (by omega);unfold decL at h9;rw[if_neg (by omega)] at h9;exact h9,.inl ⟨A,by rcases hzc with⟨_,h9⟩|⟨_,h9⟩<;>omega⟩,tA hr hpi (by omega) huk (by omega),fun h9=>by cases h9⟩ (by omega) (cT A) (dS A)
 refine bR (hH A (cK (bJ (aP A (dM A A A) (dJ 1 A ?_)))))
 have hu0:u=0:=by omega
 have hcf:cf=false:=by assumption
 have hfx2:=hfx hcf hu0
 rw[hu0,hcf] at huk
 exact cI (m+1) ys c2 ⟨by omega,hpi,hdr,hzc,By hr hpi (by omega) huk hdn,fun h9=>Bt (hft h9) hfx2⟩ (by omega) (cT A) (dS A)
 refine bR (nG A ?_)
 refine bM (dI ?_)
 refine aO (cX ?_)
 have hmr:m=rs.length:=by omega
 exact cG ys c2 ⟨hpi,hdr,fun hc9=>⟨hmr▸hdn,hmr▸hft hc9⟩⟩ (by have hch:ch=true:=(by assumption);rcases hzc with⟨h8,h9⟩|⟨h8,h9⟩<;>simp only[h8,hch,if_true,if_false,Bool.false_eq_true]<;>omega) (cT A) (dS A)
 refine bR (aS A ?_)
 refine bM (dI ?_)
 refine aO (bF (bD 3 A ?_))
 exact aV (bV (rs:=[.tmp 4,.tmp 5]) (vs:=[v1,.bool true]) (post:=[rI9 3 v1 zs]) A ⟨A,A,trivial⟩ A (dS A) ⟨_,zs,true,A,A,Fh hpz (hdz (by assumption)).1,fun _=>⟨⟨hpz.ok,hpz.len,hpz.ext,(hdz (by assumption)).2⟩,hdz0⟩,fun h=>Bool.noConfusion h⟩)
theorem vE (b:Nat) (n:Int) (cv:Value) (rs:List CRow) (F K:Nat) (ds ps:List Int) (dv qv:Value) (s:Sv) (w0:World) (l:List HP) (w:World) (hm0:Mem w0 (svE b n cv s::l) w) (c:WCtx n rs F K) (hin:WIn n rs F K ds ps s) (hcl:∀w,Mem w0 l w→RdsCl w cv rs) (hdv:Rd w0 l dv 1 ds.length (ds.map (Value.int .i64))) (hqv:Rd w0 l qv 1 ps.length (ps.map (Value.int .i64))) (IH:∀(ds2 ps2:List Int) (dv2 qv2:Value) (s9:Sv) (l2:List HP) (w2:World),zeros (ownL ds2 ps2)<zeros (ownL ds ps)→WIn n rs F K ds2 ps2 s9→(∀w,Mem w0 l2 w→RdsCl w cv rs)→Rd w0 l2 dv2 1 ds2.length (ds2.map (Value.int .i64))→Rd w0 l2 qv2 1 ps2.length (ps2.map (Value.int .i64))→Mem w0 (svE b n cv s9::l2) w2→Calls Tryz.prog 60 #[.pointer (some ⟨b,0,none⟩),dv2,qv2] w2 (fun e_ w_=>∃v_ p_,e_=.returned v_∧(fun u_ p_=>∃(s2:Sv) (cd:Int),u_=.int .i64 cd∧p_=svE b n cv s2∧WPost n rs F (ownL ds2 ps2) s9.v s2.v cd s2.fo∧(s2.pr.length:Int)-s9.pr.length≤s2.v-s9.v∧PrTo n rs ds2 s9 s2 cd) v_ p_∧Mem w0 (p_::l2) w_)) :
   Calls Tryz.prog 60 #[.pointer (some ⟨b,0,none⟩),dv,qv] w (fun e_ w_=>∃v_ p_,e_=.returned v_∧(fun u_ p_=>∃(s2:Sv) (cd:Int),u_=.int .i64 cd∧p_=svE b n cv s2∧WPost n rs F (ownL ds ps) s.v s2.v cd s2.fo∧(s2.pr.length:Int)-s.pr.length≤s2.v-s.v∧PrTo n rs ds s s2 cd) v_ p_∧Mem w0 (p_::l) w_):=by
 have hn0:=c.hr.n0
 have hn1:=c.hr.n1
 have hpl0:=hin.hps.1
 have hlen0:=hin.len
 have hv6:=nH hin.pre
 have hv00:=hin.v0
 have hpr0:=hin.pr
 refine fW (N:=119) (args:=[pI b,dv,qv]) Tryz.func60 A A (l:=(boxE b #[jI n,cv,jI 600,jI s.v,s.pv,s.fv] 84::bigE (s.pr.map cPart)::rS9 26 1 s.pv s.pr crowC::rI9 3 s.fv s.fo::l)) hm0.unbig (bD 1 A (aC (aC ?_)))
 refine cJ 9 [[],[0],[1],[2],[],[4],[5],[6],[3,7]] [15,16,17,18,19,20,21,22,23] [pI b,pI b,.pointer (some ⟨b,0+3,none⟩),jI s.v,pI b,pI b,.pointer (some ⟨b,0+2,none⟩),jI 600,.bool (decide (600≤s.v))] (by kernel_rfl) A ?_ ?_
 exact⟨bK A (aK A) A,bK A (dV A A) A,bK A (cQ 3 A A A) A,bK A (aN A A A (aH 0 A A)) A,bK A (aK A) A,bK A (dV A A) A,bK A (cQ 2 A A A) A,bK A (aN A A A (aH 0 A A)) A,bK A (dC A A A A) A,trivial⟩
 simp only[List.drop_succ_cons,List.drop_zero]
 refine bR ?_
 refine fU A (fun h1=>?_) (fun h1=>?_)
 have h1p:600≤s.v:=of_decide_eq_true h1
 refine bD 1 A ?_
 refine aV (aL ?_)
 exfalso
 have hv6:=nH hin.pre
 omega
 have h1p:¬(600≤s.v):=of_decide_eq_false h1
 refine bY (aC (bZ 1 A (aP A (dV A A) (aP A (cQ 3 A A A) (aP A (aN A A A (aH 0 A A)) (aP A (dM A A A) (aP A (dV A A) (aP A (cQ 3 A A A) ?_))))))))
 refine fI (i:=0) (cs':=#[jI n,cv,jI 600,jI (s.v+1),s.pv,s.fv]) A A A A A A A A A A A (bR (aC (bZ 1 A ?_)))
 refine eB A A A (aJ A A (fun w hm=>jF ps _ w ((fun w hm=>hqv w (hm.sub (kE 4 A))) w hm) (by omega))) ?_
 intro v2 p3 R4
 subst R4
 refine aU 1 A ?_
 refine lQ (α:=List Int) (fun own=>(rI9 3 v2 own::boxE b #[jI n,cv,jI 600,jI (s.v+1),s.pv,s.fv] 84::bigE (s.pr.map cPart)::rS9 26 1 s.pv s.pr crowC::rI9 3 s.fv s.fo::l)) (fun own=>[(0,pI b),(1,dv),(2,qv),(6,jI 0),(7,v2),(23,.bool (decide (600≤s.v)))]) (fun own=>own=(ownL ds ps)) ?_ ?_
 refine aC (bZ 1 A ?_)
 refine aP A (bC A Tryz.underlying26 A (fun w hm=>hdv w (hm.sub (kE 5 A)))) (fJ A A A A A A (fun h5=>?_) (fun h5=>?_))
 refine bR (aR A (aC (bZ 2 A ?_)))
 refine aP A (bC A Tryz.underlying26 A (fun w hm=>hdv w (hm.sub (kE 5 A)))) (aP A (iM A A A) ?_)
 obtain⟨e,hme⟩:∃e:Nat,(ds.length:Int)-1=(e:Int):=⟨ds.length-1,by omega⟩
 rw[hme]
 have hme2:ds.length-1=e:=by omega
 refine aP A (dF 1 A A A A (fun w hm=>hdv w (hm.sub (kE 5 A)))) ?_
 have hdl:=hin.hds e (by omega)
 refine aP A (hC A A A (fun w hm=>hdv w (hm.sub (kE 5 A)))) (aU 1 A (aC (bZ 1 A ?_)))
 refine fJ A A A A A A (fun h6=>?_) (fun h6=>?_)
 refine bR (aR A (bZ 2 A (aP A (iM A A A) (aP A (dF 1 A A A A (aG 0 A)) ?_))))
 refine eN (i:=0) (n':=(ps.set (((ds.getD e 0)-1).toNat) 1).length) (xs':=(mI (ps.set (((ds.getD e 0)-1).toNat) 1))) A A A A A A A A (by first|omega|(simp only[List.length_set];omega)) List.length_set.symm (fB _ _ _) A (dB ?_)
 exact fR (ps.set (((ds.getD e 0)-1).toNat) 1) (by unfold ownL;first|rw[if_pos (by omega)]|(rw[if_neg (by omega),hme2];unfold decL;first|rw[if_pos (by omega)]|rw[if_neg (by omega)])) (cT A) (.refl _)
 refine bR (aS A (bZ 2 A (aP A (iG A A (by omega) (by omega)) (aP A (iM A A A) (aP A (dF 1 A A A A (aG 0 A)) ?_)))))
 refine eN (i:=0) (n':=(ps.set (((-(ds.getD e 0))-1).toNat) (-1)).length) (xs':=((ps.set (((-(ds.getD e 0))-1).toNat) (-1)).map (Value.int .i64))) A A A A A A A A (by first|omega|(simp only[List.length_set];omega)) List.length_set.symm (fB _ _ _) A (dB ?_)
 exact fR (ps.set (((-(ds.getD e 0))-1).toNat) (-1)) (by unfold ownL;first|rw[if_pos (by omega)]|(rw[if_neg (by omega),hme2];unfold decL;first|rw[if_pos (by omega)]|rw[if_neg (by omega)])) (cT A) (.refl _)
 refine bR (hH A ?_)
 exact fR ps (by unfold ownL;first|rw[if_pos (by omega)]|(rw[if_neg (by omega),hme2];unfold decL;first|rw[if_pos (by omega)]|rw[if_neg (by omega)])) (cT A) (.refl _)
 intro own hm7
 have hown:=hm7
 have hownl:own.length=ps.length:=by rw[hown];unfold ownL;split<;>first|rfl|exact uT _ _
 refine aC (bZ 1 A (aP A (dV A A) (aP A (cQ 0 A A A) (aP A (cQ 1 A A A) (aP A (aN A A A (aH 1 A A)) (aM 1 A ?_))))))
 refine eB A A A (aJ A A (fun w hm=>nP n rs cv own _ w c.hr (hcl w (hm.sub (kE 5 A))) (by rw[hown];exact yE hin.hps) (aG 0 A w hm))) ?_
 intro v8 p9 R10
 obtain⟨pu,out,pok,rfl,rfl,hpok,hpfx,hpcf⟩:=R10
 rw[hown] at hpok hpfx hpcf
 refine aM 3 A (bW (fun h11=>?_) (fun h11=>?_))
 refine aU 2 A (aC (bD 1 A (aR A (cF ?_))))
 refine aU 1 A (fM ?_)
 refine hO (α:=Nat) [0,1,2,6,7,9,10,23,63] A (fun k=>(rI9 3 pu out::rI9 3 v2 own::boxE b #[jI n,cv,jI 600,jI (s.v+1),s.pv,s.fv] 84::bigE (s.pr.map cPart)::rS9 26 1 s.pv s.pr crowC::rI9 3 s.fv s.fo::l)) (fun k=>[(11,jI (k:Int))]) (fun k=>k≤out.length∧∀i,i<k→out.getD i 0≠0) (fun k=>out.length-k) 0 ⟨Nat.zero_le _,fun i hi=>absurd hi (by omega)⟩ (cT A) (.refl _) ?_
 intro k hi12
 obtain⟨hk,hkb⟩:=hi12
 obtain⟨hfx,hder⟩:=hpfx (by assumption)
 have hol:=hfx.ok.1
 refine aC (aC (bZ 2 A (aP A (bC A Tryz.underlying26 A (aG 0 A)) ?_)))
 refine bQ A A A A A A (fun h13=>?_) (fun h13=>?_)
 refine aM 3 A (aP A (dF 1 A A A A (aG 0 A)) (aP A (hC A A A (aG 0 A)) ?_))
 refine hQ A A A A A A (fun h14=>?_) (fun h14=>?_)
 refine aU 1 A (aR A (bY (bE (bZ 1 A (aP A (dM A A A) (dJ 1 A ?_))))))
 exact cX (cU (k+1) ⟨by omega,fun i hi=>by by_cases e9:i=k;(subst e9;assumption);exact hkb i (by omega)⟩ (by omega) (cT A) (.refl _))
 refine aU 1 A (aS A ?_)
 refine bM (dI ?_)
 refine aO (bF (aC (aC (bZ 2 A (aP A (bC A Tryz.underlying26 A (aG 0 A)) ?_)))))
 refine cM A A A A A A (fun h15=>?_) (fun h15=>?_)
 refine bR (aR A (aC (bZ 2 A (aP A (dV A A) (aP A (cQ 5 A A A) ?_)))))
 refine dZ (i:=0) A (fun ho16=>?_)
 refine fI (i:=2) (cs':=#[jI n,cv,jI 600,jI (s.v+1),s.pv,pu]) A A A A A A ho16 A A A A (bR (bD 1 A ?_))
 refine aV (fL ?_)
 refine aZ 6 [5,1,0,4,3,2] A A (by decide) ?_
 refine cZ (svE b n cv (Sv.mk (s.v+1) s.pv s.pr pu out)::rI9 3 v2 own::rI9 3 s.fv s.fo::l) (fN (ps:=[boxE b #[jI n,cv,jI 600,jI (s.v+1),s.pv,pu] 84,bigE (s.pr.map cPart),rS9 26 1 s.pv s.pr crowC,rI9 3 pu out])) ?_
 exact gZ (p':=svE b n cv (Sv.mk (s.v+1) s.pv s.pr pu out)) A A (.cons_cons _ (kE 2 A)) ⟨(Sv.mk (s.v+1) s.pv s.pr pu out),1,A,A,by first|(exfalso;omega)|exact sB (out:=out) c hfx (fun q hq=>hkb q (by omega)) (nH hin.pre),by show(s.pr.length:Int)-s.pr.length≤s.v+1-s.v;omega,PrTo.same hin.prs (by decide)⟩
 refine bR (aS A (bY (aC (bZ 1 A (aP A (dM A A A) (aP A (iG A A (by omega) (by omega)) (aM 1 A (aP A (dM A A A) ?_))))))))
 refine dP A (bB (z:=jI 0) (s:=1) (cs:=(mI [-((k:Int)+1),(k:Int)+1])) A Tryz.underlying26 A (by decide) A (by kernel_rfl) A) ?_
 intro g17
 refine aP A (bC A Tryz.underlying26 A (aG 0 A)) (aU 1 A (bE ?_))
 have hfr:SFree n rs (ownL ds ps) out k:=⟨yE hin.hps,hfx,by omega,by first|assumption|(exfalso;omega),hkb⟩
 refine eE 7 [2,1,0,6,5,4,3] A A (by decide) ?_
 refine fE (svE b n cv (Sv.mk (s.v+1) s.pv s.pr s.fv s.fo)::rowE 3 1 (.slice (some ⟨g17,0,none⟩) 2 2) 2 (mI [-((k:Int)+1),(k:Int)+1])::rI9 3 pu out::rI9 3 v2 own::l) (fN (ps:=[boxE b #[jI n,cv,jI 600,jI (s.v+1),s.pv,s.fv] 84,bigE (s.pr.map cPart),rS9 26 1 s.pv s.pr crowC,rI9 3 s.fv s.fo])) ?_
 refine gT (α:=Nat) (β:=Sv) [0,1,2,6,7,9,10,11,23,63,74,80,90,91] A (fun i s1=>(svE b n cv s1::rowE 3 1 (.slice (some ⟨g17,0,none⟩) 2 2) 2 (mI [-((k:Int)+1),(k:Int)+1])::rI9 3 pu out::rI9 3 v2 own::l)) (fun i s1=>[(92,jI (i:Int))]) (fun i s1=>i≤2∧LoopW n rs F (ownL ds ps) out k s.v i s1.v∧LoopP ds k i s1∧PrS n rs s1∧(∀c∈xsL s.pr,c∈xsL s1.pr)∧(s1.pr.length:Int)-s.pr.length≤s1.v-s.v-1∧s1.v≤600) (fun i s1=>2-i) 0 (Sv.mk (s.v+1) s.pv s.pr s.fv s.fo) ⟨by omega,.inl ⟨A,A⟩,LoopP.start _ _ _,⟨hin.prs.ok,hin.prs.cl⟩,fun _ h=>h,by show(s.pr.length:Int)-s.pr.length≤s.v+1-s.v-1;omega,by show s.v+1≤600;omega⟩ (cT A) (.refl _) ?_
 intro i s1 hi18
 obtain⟨hi,hI,hLP,hprs,hmn,hpl,h6⟩:=hi18
 refine cF ?_
 refine bQ A A A A A A (fun h19=>?_) (fun h19=>?_)
 refine bR (nF A (bY (fM (cF (aP A (dF 1 A A A A (aG 1 A)) (aP A (hC A A A (aG 1 A) (show _<2 by omega)) (aM 1 A ?_)))))))
 refine bR (cF ?_)
 obtain⟨hc1,hc2,hc3,hc4⟩:=sC c hfr hin.pre hI (by omega) (d:=([-((k:Int)+1),(k:Int)+1]).getD i 0) rfl
 have hzn:=qB hfx
 have hln:=hin.len
 have hpr9:=hin.pr
 have hv09:=hin.v0
 refine aM 2 A (eB A A A (aJ A A (fun w hm=>jF ds _ w ((fun w hm=>hdv w (hm.sub (kE 4 A))) w hm) (by omega))) ?_)
 intro v20 p21 R22
 subst R22
 refine aM 1 A (dP A (bB (z:=jI 0) (s:=1) (cs:=([([-((k:Int)+1),(k:Int)+1]).getD i 0].map (Value.int .i64))) A Tryz.underlying26 A (by decide) A (by kernel_rfl) A) ?_)
 intro g23
 refine cW (i:=1) (z:=jI 0) (bytes:=8) A A A A Tryz.underlying26 (by kernel_rfl) A A A A (aG 0 A) (cO _) (by first|omega|(simp;done)|(simp;omega)) (cH ds ([([-((k:Int)+1),(k:Int)+1]).getD i 0])) (dL ds ([([-((k:Int)+1),(k:Int)+1]).getD i 0])) (fun _=>A) ?_
 intro v24
 refine aM 1 A (gK (R:=(fun u_ p_=>∃(s2:Sv) (cd:Int),u_=jI cd∧p_=svE b n cv s2∧WPost n rs F (ownL (ds++[([-((k:Int)+1),(k:Int)+1]).getD i 0]) out) s1.v s2.v cd s2.fo∧(s2.pr.length:Int)-s1.pr.length≤s2.v-s1.v∧PrTo n rs (ds++[([-((k:Int)+1),(k:Int)+1]).getD i 0]) s1 s2 cd)) 2 A A A A A (fun L w hX hm=>IH (ds++[([-((k:Int)+1),(k:Int)+1]).getD i 0]) out _ pu s1 _ _ (by rw[hZ];omega) ⟨hfx.ok,fun q hq=>by rw[List.length_append,List.length_singleton] at hq;by_cases e9:q<ds.length;(rw[fZ e9];exact hin.hds q e9);(rw[fK (by omega),show q-ds.length=0 by omega];exact hc3),by rw[hZ,List.length_append,List.length_singleton];omega,by rw[hZ];exact hc1,by omega,by omega,by rw[hZ];exact(hin.dv.next hder).child hc3.1,hprs⟩ (fun w h=>hcl w ((hX w h).sub (kE 5 A))) (fun w h=>aG 1 A w (hX w h)) (fun w h=>aG 3 A w (hX w h)) hm) ?_)
 intro v25 p26 R27
 obtain⟨s3,cd,rfl,rfl,hvp,hpl3,hpt⟩:=R27
 refine eC (l':=(rowE 3 1 (.slice (some ⟨g23,0,none⟩) 1 1) 1 ([([-((k:Int)+1),(k:Int)+1]).getD i 0].map (Value.int .i64))::rowE 3 1 v24 ((ds++([([-((k:Int)+1),(k:Int)+1]).getD i 0])).length) ((ds++([([-((k:Int)+1),(k:Int)+1]).getD i 0])).map (Value.int .i64))::svE b n cv s3::rowE 3 1 (.slice (some ⟨g17,0,none⟩) 2 2) 2 (mI [-((k:Int)+1),(k:Int)+1])::rI9 3 pu out::rI9 3 v2 own::l)) A ?_
 refine aU 1 A (aC (bZ 1 A ?_))
 refine hQ A A A A A A (fun h28=>?_) (fun h28=>?_)
 refine bR (aR A (bD 2 A ?_))
 refine aV (aQ ?_)
 refine fL ?_
 refine aQ (aL ?_)
 refine aZ 6 [2] A A (by decide) ?_
 exact gZ (p':=svE b n cv s3) rfl rfl (.refl _) ⟨s3,cd,rfl,rfl,by have h9:=hvp;rw[hZ] at h9;exact qF c hI (by omega) h9 (by omega),by omega,PrTo.trans hmn hpt (by omega)⟩
 refine bR (hH A (cK (bJ (aP A (dM A A A) (dJ 1 A ?_)))))
 exact cG (i+1) s3 ⟨by omega,by have h9:=hvp;rw[hZ,show cd=2 by omega] at h9;exact qE c hfr hin.pre hI (by omega) rfl h9,hLP.next (by omega) rfl hpt (by omega),hpt.1,fun c9 h9=>hpt.2.1 c9 (hmn c9 h9),by omega,hvp.mono.2⟩ (by omega) (cT rfl) (kE 2 rfl)
 refine bR (nG A ?_)
 refine bM (dI ?_)
 refine aO (bF (aC ?_))
 refine eE 4 [3,2,1,0] A A (by decide) ?_
 refine fE (boxE b #[jI n,cv,jI 600,jI s1.v,s1.pv,s1.fv] 84::bigE (s1.pr.map cPart)::rS9 26 1 s1.pv s1.pr crowC::rI9 3 s1.fv s1.fo::rowE 3 1 (.slice (some ⟨g17,0,none⟩) 2 2) 2 (mI [-((k:Int)+1),(k:Int)+1])::rI9 3 pu out::rI9 3 v2 own::l) gD ?_
 refine eE 7 [6,5,4,3,1,0,2] A A (by decide) ?_
 refine eF (l:=(boxE b #[jI n,cv,jI 600,jI s1.v,s1.pv,s1.fv] 84::bigE (s1.pr.map cPart)::rI9 3 s1.fv s1.fo::rowE 3 1 (.slice (some ⟨g17,0,none⟩) 2 2) 2 (mI [-((k:Int)+1),(k:Int)+1])::rI9 3 pu out::rI9 3 v2 own::l)) A 9 [0,1,2,3,4,5,6,7,8] (List.take 9 _) (List.drop 9 _) [[],[],[1],[2],[3],[],[5],[6],[4,6,7]] [some 108,some 109,some 110,some 111,some 112,some 113,some 114,some 115,some 116] (fun i_ vs_ v_ p_=>match i_ with|0=>v_=pI b∧p_=[]|1=>v_=pI b∧p_=[]|2=>v_=pI b∧p_=[]|3=>v_=.pointer (some ⟨b,0+4,none⟩)∧p_=[]|4=>v_=s1.pv∧p_=[]|5=>v_=dv∧p_=[]|6=>(fun v' post=>post=[rI9 3 v' (ds.map (fun x=>-x))]∧v'.oneCell'=true) v_ p_|7=>IsRow 26 1 1 ([(gV9 vs_ 0)]) v_ p_|8=>(∃pm_,p_=[pm_]∧(fun u_ p_=>p_=rowE 26 1 u_ ((s1.pr++[CRow.mk (gV9 vs_ 1) (ds.map (fun x=>-x))]).length) ((s1.pr++[CRow.mk (gV9 vs_ 1) (ds.map (fun x=>-x))]).flatMap crowC)) v_ pm_)|_=>True) [[],[],[1],[2],[3],[],[5],[6],[4,6,7]] [none,none,none,none,none,none,none,none,some 12] [[rS9 26 1 s1.pv s1.pr crowC]] [0,1,2,3,4,5,6,7,8] 12 (List.take_append_drop 9 _).symm (by kernel_rfl) (by kernel_rfl) (by kernel_rfl) A A ?_ ?_
 refine⟨?_,?_,?_,?_,?_,?_,?_,?_,?_,trivial⟩
 intro vf pf hmu hR
 refine bL [] [] A (bH (aI [0] A) ?_)
 exact aT (aK A)
 intro vf pf hmu hR
 refine bL [] [] A (bH (aI [0] A) ?_)
 exact aT (aK A)
 intro vf pf hmu hR
 have e1:=hR 1 (by decide)
 refine bL [1] [1] A (bH (sk 109 (congrArg some e1.1) (aB _)) ?_)
 exact aT (dV A A)
 intro vf pf hmu hR
 have e2:=hR 2 (by decide)
 refine bL [2] [2] A (bH (sk 110 (congrArg some e2.1) (aB _)) ?_)
 exact aT (cQ 4 A A A)
 intro vf pf hmu hR
 have e3:=hR 3 (by decide)
 refine bL [3] [3] A (aW (sk 111 (congrArg some e3.1) (aB _)) (List.sublist_append_right _ _) ?_)
 exact aT (aN A A A (aH 0 A A))
 intro vf pf hmu hR
 refine bL [] [] A (bH (aI [1] A) ?_)
 exact aT (aK A)
 intro vf pf hmu hR
 have e5:=hR 5 (by decide)
 refine bL [5] [5] A (aW (sk 113 (congrArg some e5.1) (aB _)) (List.sublist_append_right _ _) ?_)
 exact aJ A A (fun w hm=>kA ds _ w (hdv w (hm.sub (kE 6 A))) (by have:=hin.len;omega) (fun i hi=>by have:=hin.hds i hi;have:=c.hr.n1;omega))
 intro vf pf hmu hR
 have e6:(fun v' post=>post=[rI9 3 v' (ds.map (fun x=>-x))]∧v'.oneCell'=true) (vf 6) (pf 6):=hR 6 (by decide)
 obtain⟨v29,vE6⟩:∃x,vf 6=x:=⟨_,rfl⟩
 obtain⟨p30,pE6⟩:∃x,pf 6=x:=⟨_,rfl⟩
 have R31:=e6
 rw[vE6,pE6] at R31
 obtain⟨rfl,honeN⟩:=R31
 refine bL [6] [6] A (bU (sk 114 (congrArg some vE6) (aB _)) (by simp only[pE6,vE6,fS]<;>rfl) ?_)
 exact cD (gS A Tryz.underlying33 (by kernel_rfl) A (fun w hm=>(aG 0 A w hm).one)) (fun v_ p_ h=>by show IsRow 26 1 1 ([(vf 6)]) v_ p_;rw[vE6];exact h)
 intro vf pf hmu hR
 have e4:=hR 4 (by decide)
 have e6:(fun v' post=>post=[rI9 3 v' (ds.map (fun x=>-x))]∧v'.oneCell'=true) (vf 6) (pf 6):=hR 6 (by decide)
 obtain⟨v29,vE6⟩:∃x,vf 6=x:=⟨_,rfl⟩
 obtain⟨p30,pE6⟩:∃x,pf 6=x:=⟨_,rfl⟩
 have R31:=e6
 rw[vE6,pE6] at R31
 obtain⟨rfl,honeN⟩:=R31
 have e7:IsRow 26 1 1 ([(vf 6)]) (vf 7) (pf 7):=hR 7 (by decide)
 rw[vE6] at e7
 obtain⟨g32,vE7,pE7⟩:=e7
 refine Or.inl ⟨A,?_⟩
 show RunM _ _ _ (pf 12) (([4,6,7]:List Nat).flatMap pf++_) (envOf3 _ vf [4,6,7]++_) _ _
 have hmu0:pf 12=[rS9 26 1 s1.pv s1.pr crowC]:=hmu 0 (show 0<1 by omega)
 rw[hmu0]
 exact cV (sk 112 (congrArg some e4.1) (sk 115 (congrArg some vE7) (aB _))) (by simp only[pE6,vE6,pE7,vE7,e4.2,fS]<;>rfl) (fD (gV (d:=0) (z:=.slice none 0 0) (bytes:=24) (n':=(s1.pr++[CRow.mk v29 (ds.map (fun x=>-x))]).length) (xs':=((s1.pr++[CRow.mk v29 (ds.map (fun x=>-x))]).flatMap crowC)) A Tryz.underlying33 A A A A (aG 1 A) (aA honeN bA) (by first|omega|(simp only[List.length_append,List.length_cons,List.length_nil];omega)) (cH s1.pr [CRow.mk v29 (ds.map (fun x=>-x))]) (dY crowC s1.pr (CRow.mk v29 (ds.map (fun x=>-x))) _ A)) (fun v_ p_ h=>by show(∃pm_,p_=[pm_]∧(fun u_ p_=>p_=rowE 26 1 u_ ((s1.pr++[CRow.mk (vf 6) (ds.map (fun x=>-x))]).length) ((s1.pr++[CRow.mk (vf 6) (ds.map (fun x=>-x))]).flatMap crowC)) v_ pm_);rw[vE6];exact h))
 intro vf pf hmu hR
 have e0:=hR 0 (by decide)
 have e6:(fun v' post=>post=[rI9 3 v' (ds.map (fun x=>-x))]∧v'.oneCell'=true) (vf 6) (pf 6):=hR 6 (by decide)
 obtain⟨v29,vE6⟩:∃x,vf 6=x:=⟨_,rfl⟩
 obtain⟨p30,pE6⟩:∃x,pf 6=x:=⟨_,rfl⟩
 have R31:=e6
 rw[vE6,pE6] at R31
 obtain⟨rfl,honeN⟩:=R31
 have e7:IsRow 26 1 1 ([(vf 6)]) (vf 7) (pf 7):=hR 7 (by decide)
 rw[vE6] at e7
 obtain⟨g32,vE7,pE7⟩:=e7
 have e8:(∃pm_,(pf 8)=[pm_]∧(fun u_ p_=>p_=rowE 26 1 u_ ((s1.pr++[CRow.mk (vf 6) (ds.map (fun x=>-x))]).length) ((s1.pr++[CRow.mk (vf 6) (ds.map (fun x=>-x))]).flatMap crowC)) (vf 8) pm_):=hR 8 (by decide)
 rw[vE6] at e8
 obtain⟨p34,pE8,R35⟩:=e8
 obtain⟨v33,vE8⟩:∃x,vf 8=x:=⟨_,rfl⟩
 rw[vE8] at R35
 subst R35
 have q0:=hR 0 (by decide)
 have q1:=hR 1 (by decide)
 have q2:=hR 2 (by decide)
 have q3:=hR 3 (by decide)
 have q4:=hR 4 (by decide)
 have q5:=hR 5 (by decide)
 refine cE (bO [93,92,91,90,80,74,63,23,11,10,9,7,6,2,1,0] _ (sk 108 (congrArg some e0.1) (sk 116 (congrArg some vE8) (aB _))) A) (by simp only[pE6,vE6,pE7,vE7,pE8,vE8,q0.2,q1.2,q2.2,q3.2,q4.2,q5.2,fS]<;>rfl) ?_
 simp only[List.drop_succ_cons,List.drop_zero]
 refine aP A (dV A A) (aP A (cQ 4 A A A) ?_)
 refine dZ (i:=2) A (fun ho36=>?_)
 refine fI (i:=3) (cs':=#[jI n,cv,jI 600,jI s1.v,v33,s1.fv]) A A A A A A ho36 A A A A (bR (bD 1 A ?_))
 refine aV (aZ 9 [8,7,6,5,3,2,1,0,4] A A (by decide) ?_)
 refine cZ (bigE ((s1.pr++[CRow.mk v29 (ds.map (fun x=>-x))]).map cPart)::rowE 26 1 (.slice (some ⟨g32,0,none⟩) 1 1) 1 ([v29])::rowE 26 1 v33 ((s1.pr++[CRow.mk v29 (ds.map (fun x=>-x))]).length) ((s1.pr++[CRow.mk v29 (ds.map (fun x=>-x))]).flatMap crowC)::boxE b #[jI n,cv,jI 600,jI s1.v,v33,s1.fv] 84::rI9 3 s1.fv s1.fo::rowE 3 1 (.slice (some ⟨g17,0,none⟩) 2 2) 2 (mI [-((k:Int)+1),(k:Int)+1])::rI9 3 pu out::rI9 3 v2 own::l) (fun w hm=>by rw[List.map_append];exact mF w hm) ?_
 refine aZ 8 [7,6,5,1,4,2,0,3] A A (by decide) ?_
 refine cZ (svE b n cv (Sv.mk s1.v v33 (s1.pr++[CRow.mk v29 (ds.map (fun x=>-x))]) s1.fv s1.fo)::rowE 26 1 (.slice (some ⟨g32,0,none⟩) 1 1) 1 ([v29])::rowE 3 1 (.slice (some ⟨g17,0,none⟩) 2 2) 2 (mI [-((k:Int)+1),(k:Int)+1])::rI9 3 pu out::rI9 3 v2 own::l) (fN (ps:=[boxE b #[jI n,cv,jI 600,jI s1.v,v33,s1.fv] 84,bigE ((s1.pr++[CRow.mk v29 (ds.map (fun x=>-x))]).map cPart),rowE 26 1 v33 ((s1.pr++[CRow.mk v29 (ds.map (fun x=>-x))]).length) ((s1.pr++[CRow.mk v29 (ds.map (fun x=>-x))]).flatMap crowC),rI9 3 s1.fv s1.fo])) ?_
 exact gZ (p':=svE b n cv (Sv.mk s1.v v33 (s1.pr++[CRow.mk v29 (ds.map (fun x=>-x))]) s1.fv s1.fo)) A A (.cons_cons _ (kE 4 A)) ⟨(Sv.mk s1.v v33 (s1.pr++[CRow.mk v29 (ds.map (fun x=>-x))]) s1.fv s1.fo),2,A,A,sD c hpok (by rw[show(2:Nat)=i by omega];exact hI) h6,by show((s1.pr++[CRow.mk v29 (ds.map (fun x=>-x))]).length:Int)-s.pr.length≤_;rw[List.length_append,List.length_singleton];(show _≤(s1.v)-s.v);omega,PrTo.put (s1:=s1) hmn hprs (yG (by have:=hin.len;omega) hin.hds) (vO (by rw[show(2:Nat)=i by omega];exact hLP) hin.hds)⟩
 refine aU 7 A (aS A ?_)
 refine bM (dI ?_)
 refine aO (bF (aC (aC (bZ 2 A (aP A (bC A Tryz.underlying26 A (aG 0 A)) ?_)))))
 refine cM A A A A A A (fun h37=>?_) (fun h37=>?_)
 refine bR (aR A (aC (bZ 2 A (aP A (dV A A) (aP A (cQ 5 A A A) ?_)))))
 refine dZ (i:=0) A (fun ho38=>?_)
 refine fI (i:=2) (cs':=#[jI n,cv,jI 600,jI (s.v+1),s.pv,pu]) A A A A A A ho38 A A A A (bR (bD 1 A ?_))
 refine aV (fL ?_)
 refine aZ 6 [5,1,0,4,3,2] A A (by decide) ?_
 refine cZ (svE b n cv (Sv.mk (s.v+1) s.pv s.pr pu out)::rI9 3 v2 own::rI9 3 s.fv s.fo::l) (fN (ps:=[boxE b #[jI n,cv,jI 600,jI (s.v+1),s.pv,pu] 84,bigE (s.pr.map cPart),rS9 26 1 s.pv s.pr crowC,rI9 3 pu out])) ?_
 exact gZ (p':=svE b n cv (Sv.mk (s.v+1) s.pv s.pr pu out)) A A (.cons_cons _ (kE 2 A)) ⟨(Sv.mk (s.v+1) s.pv s.pr pu out),1,A,A,by first|(exfalso;omega)|exact sB (out:=out) c hfx (fun q hq=>hkb q (by omega)) (nH hin.pre),by show(s.pr.length:Int)-s.pr.length≤s.v+1-s.v;omega,PrTo.same hin.prs (by decide)⟩
 refine bR (aS A (bY (aC (bZ 1 A (aP A (dM A A A) (aP A (iG A A (by omega) (by omega)) (aM 1 A (aP A (dM A A A) ?_))))))))
 refine dP A (bB (z:=jI 0) (s:=1) (cs:=(mI [-((k:Int)+1),(k:Int)+1])) A Tryz.underlying26 A (by decide) A (by kernel_rfl) A) ?_
 intro g39
 refine aP A (bC A Tryz.underlying26 A (aG 0 A)) (aU 1 A (bE ?_))
 have hfr:SFree n rs (ownL ds ps) out k:=⟨yE hin.hps,hfx,by omega,by first|assumption|(exfalso;omega),hkb⟩
 refine eE 7 [2,1,0,6,5,4,3] A A (by decide) ?_
 refine fE (svE b n cv (Sv.mk (s.v+1) s.pv s.pr s.fv s.fo)::rowE 3 1 (.slice (some ⟨g39,0,none⟩) 2 2) 2 (mI [-((k:Int)+1),(k:Int)+1])::rI9 3 pu out::rI9 3 v2 own::l) (fN (ps:=[boxE b #[jI n,cv,jI 600,jI (s.v+1),s.pv,s.fv] 84,bigE (s.pr.map cPart),rS9 26 1 s.pv s.pr crowC,rI9 3 s.fv s.fo])) ?_
 refine gT (α:=Nat) (β:=Sv) [0,1,2,6,7,9,10,11,23,63,74,80,90,91] A (fun i s1=>(svE b n cv s1::rowE 3 1 (.slice (some ⟨g39,0,none⟩) 2 2) 2 (mI [-((k:Int)+1),(k:Int)+1])::rI9 3 pu out::rI9 3 v2 own::l)) (fun i s1=>[(92,jI (i:Int))]) (fun i s1=>i≤2∧LoopW n rs F (ownL ds ps) out k s.v i s1.v∧LoopP ds k i s1∧PrS n rs s1∧(∀c∈xsL s.pr,c∈xsL s1.pr)∧(s1.pr.length:Int)-s.pr.length≤s1.v-s.v-1∧s1.v≤600) (fun i s1=>2-i) 0 (Sv.mk (s.v+1) s.pv s.pr s.fv s.fo) ⟨by omega,.inl ⟨A,A⟩,LoopP.start _ _ _,⟨hin.prs.ok,hin.prs.cl⟩,fun _ h=>h,by show(s.pr.length:Int)-s.pr.length≤s.v+1-s.v-1;omega,by show s.v+1≤600;omega⟩ (cT A) (.refl _) ?_
 intro i s1 hi40
 obtain⟨hi,hI,hLP,hprs,hmn,hpl,h6⟩:=hi40
 refine cF ?_
 refine bQ A A A A A A (fun h41=>?_) (fun h41=>?_)
 refine bR (nF A (bY (fM (cF (aP A (dF 1 A A A A (aG 1 A)) (aP A (hC A A A (aG 1 A) (show _<2 by omega)) (aM 1 A ?_)))))))
 refine bR (cF ?_)
 obtain⟨hc1,hc2,hc3,hc4⟩:=sC c hfr hin.pre hI (by omega) (d:=([-((k:Int)+1),(k:Int)+1]).getD i 0) rfl
 have hzn:=qB hfx
 have hln:=hin.len
 have hpr9:=hin.pr
 have hv09:=hin.v0
 refine aM 2 A (eB A A A (aJ A A (fun w hm=>jF ds _ w ((fun w hm=>hdv w (hm.sub (kE 4 A))) w hm) (by omega))) ?_)
 intro v42 p43 R44
 subst R44
 refine aM 1 A (dP A (bB (z:=jI 0) (s:=1) (cs:=([([-((k:Int)+1),(k:Int)+1]).getD i 0].map (Value.int .i64))) A Tryz.underlying26 A (by decide) A (by kernel_rfl) A) ?_)
 intro g45
 refine cW (i:=1) (z:=jI 0) (bytes:=8) A A A A Tryz.underlying26 (by kernel_rfl) A A A A (aG 0 A) (cO _) (by first|omega|(simp;done)|(simp;omega)) (cH ds ([([-((k:Int)+1),(k:Int)+1]).getD i 0])) (dL ds ([([-((k:Int)+1),(k:Int)+1]).getD i 0])) (fun _=>A) ?_
 intro v46
 refine aM 1 A (gK (R:=(fun u_ p_=>∃(s2:Sv) (cd:Int),u_=jI cd∧p_=svE b n cv s2∧WPost n rs F (ownL (ds++[([-((k:Int)+1),(k:Int)+1]).getD i 0]) out) s1.v s2.v cd s2.fo∧(s2.pr.length:Int)-s1.pr.length≤s2.v-s1.v∧PrTo n rs (ds++[([-((k:Int)+1),(k:Int)+1]).getD i 0]) s1 s2 cd)) 2 A A A A A (fun L w hX hm=>IH (ds++[([-((k:Int)+1),(k:Int)+1]).getD i 0]) out _ pu s1 _ _ (by rw[hZ];omega) ⟨hfx.ok,fun q hq=>by rw[List.length_append,List.length_singleton] at hq;by_cases e9:q<ds.length;(rw[fZ e9];exact hin.hds q e9);(rw[fK (by omega),show q-ds.length=0 by omega];exact hc3),by rw[hZ,List.length_append,List.length_singleton];omega,by rw[hZ];exact hc1,by omega,by omega,by rw[hZ];exact(hin.dv.next hder).child hc3.1,hprs⟩ (fun w h=>hcl w ((hX w h).sub (kE 5 A))) (fun w h=>aG 1 A w (hX w h)) (fun w h=>aG 3 A w (hX w h)) hm) ?_)
 intro v47 p48 R49
 obtain⟨s3,cd,rfl,rfl,hvp,hpl3,hpt⟩:=R49
 refine eC (l':=(rowE 3 1 (.slice (some ⟨g45,0,none⟩) 1 1) 1 ([([-((k:Int)+1),(k:Int)+1]).getD i 0].map (Value.int .i64))::rowE 3 1 v46 ((ds++([([-((k:Int)+1),(k:Int)+1]).getD i 0])).length) ((ds++([([-((k:Int)+1),(k:Int)+1]).getD i 0])).map (Value.int .i64))::svE b n cv s3::rowE 3 1 (.slice (some ⟨g39,0,none⟩) 2 2) 2 (mI [-((k:Int)+1),(k:Int)+1])::rI9 3 pu out::rI9 3 v2 own::l)) A ?_
 refine aU 1 A (aC (bZ 1 A ?_))
 refine hQ A A A A A A (fun h50=>?_) (fun h50=>?_)
 refine bR (aR A (bD 2 A ?_))
 refine aV (aQ ?_)
 refine fL ?_
 refine aQ (aL ?_)
 refine aZ 6 [2] A A (by decide) ?_
 exact gZ (p':=svE b n cv s3) rfl rfl (.refl _) ⟨s3,cd,rfl,rfl,by have h9:=hvp;rw[hZ] at h9;exact qF c hI (by omega) h9 (by omega),by omega,PrTo.trans hmn hpt (by omega)⟩
 refine bR (hH A (cK (bJ (aP A (dM A A A) (dJ 1 A ?_)))))
 exact cG (i+1) s3 ⟨by omega,by have h9:=hvp;rw[hZ,show cd=2 by omega] at h9;exact qE c hfr hin.pre hI (by omega) rfl h9,hLP.next (by omega) rfl hpt (by omega),hpt.1,fun c9 h9=>hpt.2.1 c9 (hmn c9 h9),by omega,hvp.mono.2⟩ (by omega) (cT rfl) (kE 2 rfl)
 refine bR (nG A ?_)
 refine bM (dI ?_)
 refine aO (bF (aC ?_))
 refine eE 4 [3,2,1,0] A A (by decide) ?_
 refine fE (boxE b #[jI n,cv,jI 600,jI s1.v,s1.pv,s1.fv] 84::bigE (s1.pr.map cPart)::rS9 26 1 s1.pv s1.pr crowC::rI9 3 s1.fv s1.fo::rowE 3 1 (.slice (some ⟨g39,0,none⟩) 2 2) 2 (mI [-((k:Int)+1),(k:Int)+1])::rI9 3 pu out::rI9 3 v2 own::l) gD ?_
 refine eE 7 [6,5,4,3,1,0,2] A A (by decide) ?_
 refine eF (l:=(boxE b #[jI n,cv,jI 600,jI s1.v,s1.pv,s1.fv] 84::bigE (s1.pr.map cPart)::rI9 3 s1.fv s1.fo::rowE 3 1 (.slice (some ⟨g39,0,none⟩) 2 2) 2 (mI [-((k:Int)+1),(k:Int)+1])::rI9 3 pu out::rI9 3 v2 own::l)) A 9 [0,1,2,3,4,5,6,7,8] (List.take 9 _) (List.drop 9 _) [[],[],[1],[2],[3],[],[5],[6],[4,6,7]] [some 108,some 109,some 110,some 111,some 112,some 113,some 114,some 115,some 116] (fun i_ vs_ v_ p_=>match i_ with|0=>v_=pI b∧p_=[]|1=>v_=pI b∧p_=[]|2=>v_=pI b∧p_=[]|3=>v_=.pointer (some ⟨b,0+4,none⟩)∧p_=[]|4=>v_=s1.pv∧p_=[]|5=>v_=dv∧p_=[]|6=>(fun v' post=>post=[rI9 3 v' (ds.map (fun x=>-x))]∧v'.oneCell'=true) v_ p_|7=>IsRow 26 1 1 ([(gV9 vs_ 0)]) v_ p_|8=>(∃pm_,p_=[pm_]∧(fun u_ p_=>p_=rowE 26 1 u_ ((s1.pr++[CRow.mk (gV9 vs_ 1) (ds.map (fun x=>-x))]).length) ((s1.pr++[CRow.mk (gV9 vs_ 1) (ds.map (fun x=>-x))]).flatMap crowC)) v_ pm_)|_=>True) [[],[],[1],[2],[3],[],[5],[6],[4,6,7]] [none,none,none,none,none,none,none,none,some 12] [[rS9 26 1 s1.pv s1.pr crowC]] [0,1,2,3,4,5,6,7,8] 12 (List.take_append_drop 9 _).symm (by kernel_rfl) (by kernel_rfl) (by kernel_rfl) A A ?_ ?_
 refine⟨?_,?_,?_,?_,?_,?_,?_,?_,?_,trivial⟩
 intro vf pf hmu hR
 refine bL [] [] A (bH (aI [0] A) ?_)
 exact aT (aK A)
 intro vf pf hmu hR
 refine bL [] [] A (bH (aI [0] A) ?_)
 exact aT (aK A)
 intro vf pf hmu hR
 have e1:=hR 1 (by decide)
 refine bL [1] [1] A (bH (sk 109 (congrArg some e1.1) (aB _)) ?_)
 exact aT (dV A A)
 intro vf pf hmu hR
 have e2:=hR 2 (by decide)
 refine bL [2] [2] A (bH (sk 110 (congrArg some e2.1) (aB _)) ?_)
 exact aT (cQ 4 A A A)
 intro vf pf hmu hR
 have e3:=hR 3 (by decide)
 refine bL [3] [3] A (aW (sk 111 (congrArg some e3.1) (aB _)) (List.sublist_append_right _ _) ?_)
 exact aT (aN A A A (aH 0 A A))
 intro vf pf hmu hR
 refine bL [] [] A (bH (aI [1] A) ?_)
 exact aT (aK A)
 intro vf pf hmu hR
 have e5:=hR 5 (by decide)
 refine bL [5] [5] A (aW (sk 113 (congrArg some e5.1) (aB _)) (List.sublist_append_right _ _) ?_)
 exact aJ A A (fun w hm=>kA ds _ w (hdv w (hm.sub (kE 6 A))) (by have:=hin.len;omega) (fun i hi=>by have:=hin.hds i hi;have:=c.hr.n1;omega))
 intro vf pf hmu hR
 have e6:(fun v' post=>post=[rI9 3 v' (ds.map (fun x=>-x))]∧v'.oneCell'=true) (vf 6) (pf 6):=hR 6 (by decide)
 obtain⟨v51,vE6⟩:∃x,vf 6=x:=⟨_,rfl⟩
 obtain⟨p52,pE6⟩:∃x,pf 6=x:=⟨_,rfl⟩
 have R53:=e6
 rw[vE6,pE6] at R53
 obtain⟨rfl,honeN⟩:=R53
 refine bL [6] [6] A (bU (sk 114 (congrArg some vE6) (aB _)) (by simp only[pE6,vE6,fS]<;>rfl) ?_)
 exact cD (gS A Tryz.underlying33 (by kernel_rfl) A (fun w hm=>(aG 0 A w hm).one)) (fun v_ p_ h=>by show IsRow 26 1 1 ([(vf 6)]) v_ p_;rw[vE6];exact h)
 intro vf pf hmu hR
 have e4:=hR 4 (by decide)
 have e6:(fun v' post=>post=[rI9 3 v' (ds.map (fun x=>-x))]∧v'.oneCell'=true) (vf 6) (pf 6):=hR 6 (by decide)
 obtain⟨v51,vE6⟩:∃x,vf 6=x:=⟨_,rfl⟩
 obtain⟨p52,pE6⟩:∃x,pf 6=x:=⟨_,rfl⟩
 have R53:=e6
 rw[vE6,pE6] at R53
 obtain⟨rfl,honeN⟩:=R53
 have e7:IsRow 26 1 1 ([(vf 6)]) (vf 7) (pf 7):=hR 7 (by decide)
 rw[vE6] at e7
 obtain⟨g54,vE7,pE7⟩:=e7
 refine Or.inl ⟨A,?_⟩
 show RunM _ _ _ (pf 12) (([4,6,7]:List Nat).flatMap pf++_) (envOf3 _ vf [4,6,7]++_) _ _
 have hmu0:pf 12=[rS9 26 1 s1.pv s1.pr crowC]:=hmu 0 (show 0<1 by omega)
 rw[hmu0]
 exact cV (sk 112 (congrArg some e4.1) (sk 115 (congrArg some vE7) (aB _))) (by simp only[pE6,vE6,pE7,vE7,e4.2,fS]<;>rfl) (fD (gV (d:=0) (z:=.slice none 0 0) (bytes:=24) (n':=(s1.pr++[CRow.mk v51 (ds.map (fun x=>-x))]).length) (xs':=((s1.pr++[CRow.mk v51 (ds.map (fun x=>-x))]).flatMap crowC)) A Tryz.underlying33 A A A A (aG 1 A) (aA honeN bA) (by first|omega|(simp only[List.length_append,List.length_cons,List.length_nil];omega)) (cH s1.pr [CRow.mk v51 (ds.map (fun x=>-x))]) (dY crowC s1.pr (CRow.mk v51 (ds.map (fun x=>-x))) _ A)) (fun v_ p_ h=>by show(∃pm_,p_=[pm_]∧(fun u_ p_=>p_=rowE 26 1 u_ ((s1.pr++[CRow.mk (vf 6) (ds.map (fun x=>-x))]).length) ((s1.pr++[CRow.mk (vf 6) (ds.map (fun x=>-x))]).flatMap crowC)) v_ pm_);rw[vE6];exact h))
 intro vf pf hmu hR
 have e0:=hR 0 (by decide)
 have e6:(fun v' post=>post=[rI9 3 v' (ds.map (fun x=>-x))]∧v'.oneCell'=true) (vf 6) (pf 6):=hR 6 (by decide)
 obtain⟨v51,vE6⟩:∃x,vf 6=x:=⟨_,rfl⟩
 obtain⟨p52,pE6⟩:∃x,pf 6=x:=⟨_,rfl⟩
 have R53:=e6
 rw[vE6,pE6] at R53
 obtain⟨rfl,honeN⟩:=R53
 have e7:IsRow 26 1 1 ([(vf 6)]) (vf 7) (pf 7):=hR 7 (by decide)
 rw[vE6] at e7
 obtain⟨g54,vE7,pE7⟩:=e7
 have e8:(∃pm_,(pf 8)=[pm_]∧(fun u_ p_=>p_=rowE 26 1 u_ ((s1.pr++[CRow.mk (vf 6) (ds.map (fun x=>-x))]).length) ((s1.pr++[CRow.mk (vf 6) (ds.map (fun x=>-x))]).flatMap crowC)) (vf 8) pm_):=hR 8 (by decide)
 rw[vE6] at e8
 obtain⟨p56,pE8,R57⟩:=e8
 obtain⟨v55,vE8⟩:∃x,vf 8=x:=⟨_,rfl⟩
 rw[vE8] at R57
 subst R57
 have q0:=hR 0 (by decide)
 have q1:=hR 1 (by decide)
 have q2:=hR 2 (by decide)
 have q3:=hR 3 (by decide)
 have q4:=hR 4 (by decide)
 have q5:=hR 5 (by decide)
 refine cE (bO [93,92,91,90,80,74,63,23,11,10,9,7,6,2,1,0] _ (sk 108 (congrArg some e0.1) (sk 116 (congrArg some vE8) (aB _))) A) (by simp only[pE6,vE6,pE7,vE7,pE8,vE8,q0.2,q1.2,q2.2,q3.2,q4.2,q5.2,fS]<;>rfl) ?_
 simp only[List.drop_succ_cons,List.drop_zero]
 refine aP A (dV A A) (aP A (cQ 4 A A A) ?_)
 refine dZ (i:=2) A (fun ho58=>?_)
 refine fI (i:=3) (cs':=#[jI n,cv,jI 600,jI s1.v,v55,s1.fv]) A A A A A A ho58 A A A A (bR (bD 1 A ?_))
 refine aV (aZ 9 [8,7,6,5,3,2,1,0,4] A A (by decide) ?_)
 refine cZ (bigE ((s1.pr++[CRow.mk v51 (ds.map (fun x=>-x))]).map cPart)::rowE 26 1 (.slice (some ⟨g54,0,none⟩) 1 1) 1 ([v51])::rowE 26 1 v55 ((s1.pr++[CRow.mk v51 (ds.map (fun x=>-x))]).length) ((s1.pr++[CRow.mk v51 (ds.map (fun x=>-x))]).flatMap crowC)::boxE b #[jI n,cv,jI 600,jI s1.v,v55,s1.fv] 84::rI9 3 s1.fv s1.fo::rowE 3 1 (.slice (some ⟨g39,0,none⟩) 2 2) 2 (mI [-((k:Int)+1),(k:Int)+1])::rI9 3 pu out::rI9 3 v2 own::l) (fun w hm=>by rw[List.map_append];exact mF w hm) ?_
 refine aZ 8 [7,6,5,1,4,2,0,3] A A (by decide) ?_
 refine cZ (svE b n cv (Sv.mk s1.v v55 (s1.pr++[CRow.mk v51 (ds.map (fun x=>-x))]) s1.fv s1.fo)::rowE 26 1 (.slice (some ⟨g54,0,none⟩) 1 1) 1 ([v51])::rowE 3 1 (.slice (some ⟨g39,0,none⟩) 2 2) 2 (mI [-((k:Int)+1),(k:Int)+1])::rI9 3 pu out::rI9 3 v2 own::l) (fN (ps:=[boxE b #[jI n,cv,jI 600,jI s1.v,v55,s1.fv] 84,bigE ((s1.pr++[CRow.mk v51 (ds.map (fun x=>-x))]).map cPart),rowE 26 1 v55 ((s1.pr++[CRow.mk v51 (ds.map (fun x=>-x))]).length) ((s1.pr++[CRow.mk v51 (ds.map (fun x=>-x))]).flatMap crowC),rI9 3 s1.fv s1.fo])) ?_
 exact gZ (p':=svE b n cv (Sv.mk s1.v v55 (s1.pr++[CRow.mk v51 (ds.map (fun x=>-x))]) s1.fv s1.fo)) A A (.cons_cons _ (kE 4 A)) ⟨(Sv.mk s1.v v55 (s1.pr++[CRow.mk v51 (ds.map (fun x=>-x))]) s1.fv s1.fo),2,A,A,sD c hpok (by rw[show(2:Nat)=i by omega];exact hI) h6,by show((s1.pr++[CRow.mk v51 (ds.map (fun x=>-x))]).length:Int)-s.pr.length≤_;rw[List.length_append,List.length_singleton];(show _≤(s1.v)-s.v);omega,PrTo.put (s1:=s1) hmn hprs (yG (by have:=hin.len;omega) hin.hds) (vO (by rw[show(2:Nat)=i by omega];exact hLP) hin.hds)⟩
 refine aU 2 A (aC (bD 1 A (aS A (bY ?_))))
 refine aC ?_
 have hv6:=nH hin.pre
 refine eE 6 [5,3,2,1,0,4] A A (by decide) ?_
 refine eF (l:=(rI9 3 pu out::rI9 3 v2 own::boxE b #[jI n,cv,jI 600,jI (s.v+1),s.pv,s.fv] 84::bigE (s.pr.map cPart)::rI9 3 s.fv s.fo::l)) A 9 [0,1,2,3,4,5,6,7,8] (List.take 9 _) (List.drop 9 _) [[],[],[1],[2],[3],[],[5],[6],[4,6,7]] [some 108,some 109,some 110,some 111,some 112,some 113,some 114,some 115,some 116] (fun i_ vs_ v_ p_=>match i_ with|0=>v_=pI b∧p_=[]|1=>v_=pI b∧p_=[]|2=>v_=pI b∧p_=[]|3=>v_=.pointer (some ⟨b,0+4,none⟩)∧p_=[]|4=>v_=s.pv∧p_=[]|5=>v_=dv∧p_=[]|6=>(fun v' post=>post=[rI9 3 v' (ds.map (fun x=>-x))]∧v'.oneCell'=true) v_ p_|7=>IsRow 26 1 1 ([(gV9 vs_ 0)]) v_ p_|8=>(∃pm_,p_=[pm_]∧(fun u_ p_=>p_=rowE 26 1 u_ ((s.pr++[CRow.mk (gV9 vs_ 1) (ds.map (fun x=>-x))]).length) ((s.pr++[CRow.mk (gV9 vs_ 1) (ds.map (fun x=>-x))]).flatMap crowC)) v_ pm_)|_=>True) [[],[],[1],[2],[3],[],[5],[6],[4,6,7]] [none,none,none,none,none,none,none,none,some 12] [[rS9 26 1 s.pv s.pr crowC]] [0,1,2,3,4,5,6,7,8] 12 (List.take_append_drop 9 _).symm (by kernel_rfl) (by kernel_rfl) (by kernel_rfl) A A ?_ ?_
 refine⟨?_,?_,?_,?_,?_,?_,?_,?_,?_,trivial⟩
 intro vf pf hmu hR
 refine bL [] [] A (bH (aI [0] A) ?_)
 exact aT (aK A)
 intro vf pf hmu hR
 refine bL [] [] A (bH (aI [0] A) ?_)
 exact aT (aK A)
 intro vf pf hmu hR
 have e1:=hR 1 (by decide)
 refine bL [1] [1] A (bH (sk 109 (congrArg some e1.1) (aB _)) ?_)
 exact aT (dV A A)
 intro vf pf hmu hR
 have e2:=hR 2 (by decide)
 refine bL [2] [2] A (bH (sk 110 (congrArg some e2.1) (aB _)) ?_)
 exact aT (cQ 4 A A A)
 intro vf pf hmu hR
 have e3:=hR 3 (by decide)
 refine bL [3] [3] A (aW (sk 111 (congrArg some e3.1) (aB _)) (List.sublist_append_right _ _) ?_)
 exact aT (aN A A A (aH 2 A A))
 intro vf pf hmu hR
 refine bL [] [] A (bH (aI [1] A) ?_)
 exact aT (aK A)
 intro vf pf hmu hR
 have e5:=hR 5 (by decide)
 refine bL [5] [5] A (aW (sk 113 (congrArg some e5.1) (aB _)) (List.sublist_append_right _ _) ?_)
 exact aJ A A (fun w hm=>kA ds _ w (hdv w (hm.sub (kE 5 A))) (by have:=hin.len;omega) (fun i hi=>by have:=hin.hds i hi;have:=c.hr.n1;omega))
 intro vf pf hmu hR
 have e6:(fun v' post=>post=[rI9 3 v' (ds.map (fun x=>-x))]∧v'.oneCell'=true) (vf 6) (pf 6):=hR 6 (by decide)
 obtain⟨v59,vE6⟩:∃x,vf 6=x:=⟨_,rfl⟩
 obtain⟨p60,pE6⟩:∃x,pf 6=x:=⟨_,rfl⟩
 have R61:=e6
 rw[vE6,pE6] at R61
 obtain⟨rfl,honeN⟩:=R61
 refine bL [6] [6] A (bU (sk 114 (congrArg some vE6) (aB _)) (by simp only[pE6,vE6,fS]<;>rfl) ?_)
 exact cD (gS A Tryz.underlying33 (by kernel_rfl) A (fun w hm=>(aG 0 A w hm).one)) (fun v_ p_ h=>by show IsRow 26 1 1 ([(vf 6)]) v_ p_;rw[vE6];exact h)
 intro vf pf hmu hR
 have e4:=hR 4 (by decide)
 have e6:(fun v' post=>post=[rI9 3 v' (ds.map (fun x=>-x))]∧v'.oneCell'=true) (vf 6) (pf 6):=hR 6 (by decide)
 obtain⟨v59,vE6⟩:∃x,vf 6=x:=⟨_,rfl⟩
 obtain⟨p60,pE6⟩:∃x,pf 6=x:=⟨_,rfl⟩
 have R61:=e6
 rw[vE6,pE6] at R61
 obtain⟨rfl,honeN⟩:=R61
 have e7:IsRow 26 1 1 ([(vf 6)]) (vf 7) (pf 7):=hR 7 (by decide)
 rw[vE6] at e7
 obtain⟨g62,vE7,pE7⟩:=e7
 refine Or.inl ⟨A,?_⟩
 show RunM _ _ _ (pf 12) (([4,6,7]:List Nat).flatMap pf++_) (envOf3 _ vf [4,6,7]++_) _ _
 have hmu0:pf 12=[rS9 26 1 s.pv s.pr crowC]:=hmu 0 (show 0<1 by omega)
 rw[hmu0]
 exact cV (sk 112 (congrArg some e4.1) (sk 115 (congrArg some vE7) (aB _))) (by simp only[pE6,vE6,pE7,vE7,e4.2,fS]<;>rfl) (fD (gV (d:=0) (z:=.slice none 0 0) (bytes:=24) (n':=(s.pr++[CRow.mk v59 (ds.map (fun x=>-x))]).length) (xs':=((s.pr++[CRow.mk v59 (ds.map (fun x=>-x))]).flatMap crowC)) A Tryz.underlying33 A A A A (aG 1 A) (aA honeN bA) (by first|omega|(simp only[List.length_append,List.length_cons,List.length_nil];omega)) (cH s.pr [CRow.mk v59 (ds.map (fun x=>-x))]) (dY crowC s.pr (CRow.mk v59 (ds.map (fun x=>-x))) _ A)) (fun v_ p_ h=>by show(∃pm_,p_=[pm_]∧(fun u_ p_=>p_=rowE 26 1 u_ ((s.pr++[CRow.mk (vf 6) (ds.map (fun x=>-x))]).length) ((s.pr++[CRow.mk (vf 6) (ds.map (fun x=>-x))]).flatMap crowC)) v_ pm_);rw[vE6];exact h))
 intro vf pf hmu hR
 have e0:=hR 0 (by decide)
 have e6:(fun v' post=>post=[rI9 3 v' (ds.map (fun x=>-x))]∧v'.oneCell'=true) (vf 6) (pf 6):=hR 6 (by decide)
 obtain⟨v59,vE6⟩:∃x,vf 6=x:=⟨_,rfl⟩
 obtain⟨p60,pE6⟩:∃x,pf 6=x:=⟨_,rfl⟩
 have R61:=e6
 rw[vE6,pE6] at R61
 obtain⟨rfl,honeN⟩:=R61
 have e7:IsRow 26 1 1 ([(vf 6)]) (vf 7) (pf 7):=hR 7 (by decide)
 rw[vE6] at e7
 obtain⟨g62,vE7,pE7⟩:=e7
 have e8:(∃pm_,(pf 8)=[pm_]∧(fun u_ p_=>p_=rowE 26 1 u_ ((s.pr++[CRow.mk (vf 6) (ds.map (fun x=>-x))]).length) ((s.pr++[CRow.mk (vf 6) (ds.map (fun x=>-x))]).flatMap crowC)) (vf 8) pm_):=hR 8 (by decide)
 rw[vE6] at e8
 obtain⟨p64,pE8,R65⟩:=e8
 obtain⟨v63,vE8⟩:∃x,vf 8=x:=⟨_,rfl⟩
 rw[vE8] at R65
 subst R65
 have q0:=hR 0 (by decide)
 have q1:=hR 1 (by decide)
 have q2:=hR 2 (by decide)
 have q3:=hR 3 (by decide)
 have q4:=hR 4 (by decide)
 have q5:=hR 5 (by decide)
 refine cE (bO [63,23,10,9,7,6,2,1,0] _ (sk 108 (congrArg some e0.1) (sk 116 (congrArg some vE8) (aB _))) A) (by simp only[pE6,vE6,pE7,vE7,pE8,vE8,q0.2,q1.2,q2.2,q3.2,q4.2,q5.2,fS]<;>rfl) ?_
 simp only[List.drop_succ_cons,List.drop_zero]
 refine aP A (dV A A) (aP A (cQ 4 A A A) ?_)
 refine dZ (i:=2) A (fun ho66=>?_)
 refine fI (i:=5) (cs':=#[jI n,cv,jI 600,jI (s.v+1),v63,s.fv]) A A A A A A ho66 A A A A (bR (bD 1 A ?_))
 refine aV (aZ 8 [7,5,4,3,2,1,0,6] A A (by decide) ?_)
 refine cZ (bigE ((s.pr++[CRow.mk v59 (ds.map (fun x=>-x))]).map cPart)::rowE 26 1 (.slice (some ⟨g62,0,none⟩) 1 1) 1 ([v59])::rowE 26 1 v63 ((s.pr++[CRow.mk v59 (ds.map (fun x=>-x))]).length) ((s.pr++[CRow.mk v59 (ds.map (fun x=>-x))]).flatMap crowC)::rI9 3 pu out::rI9 3 v2 own::boxE b #[jI n,cv,jI 600,jI (s.v+1),v63,s.fv] 84::rI9 3 s.fv s.fo::l) (fun w hm=>by rw[List.map_append];exact mF w hm) ?_
 refine aZ 7 [4,3,1,6,2,0,5] A A (by decide) ?_
 refine cZ (svE b n cv (Sv.mk (s.v+1) v63 (s.pr++[CRow.mk v59 (ds.map (fun x=>-x))]) s.fv s.fo)::rowE 26 1 (.slice (some ⟨g62,0,none⟩) 1 1) 1 ([v59])::rI9 3 pu out::rI9 3 v2 own::l) (fN (ps:=[boxE b #[jI n,cv,jI 600,jI (s.v+1),v63,s.fv] 84,bigE ((s.pr++[CRow.mk v59 (ds.map (fun x=>-x))]).map cPart),rowE 26 1 v63 ((s.pr++[CRow.mk v59 (ds.map (fun x=>-x))]).length) ((s.pr++[CRow.mk v59 (ds.map (fun x=>-x))]).flatMap crowC),rI9 3 s.fv s.fo])) ?_
 exact gZ (p':=svE b n cv (Sv.mk (s.v+1) v63 (s.pr++[CRow.mk v59 (ds.map (fun x=>-x))]) s.fv s.fo)) A A (.cons_cons _ (kE 3 A)) ⟨(Sv.mk (s.v+1) v63 (s.pr++[CRow.mk v59 (ds.map (fun x=>-x))]) s.fv s.fo),2,A,A,Ay hpok (by assumption) hv6,by show((s.pr++[CRow.mk v59 (ds.map (fun x=>-x))]).length:Int)-s.pr.length≤_;rw[List.length_append,List.length_singleton];(show _≤(s.v+1)-s.v);omega,PrTo.put (s1:=s) (fun _ h=>h) hin.prs (yG (by have:=hin.len;omega) hin.hds) (Cv hin.dv (hpcf (by assumption)))⟩
open Go.RowKit
theorem qD (b:Nat) (n:Int) (cv:Value) (rs:List CRow) (F K:Nat) (w0:World) (c:WCtx n rs F K):∀(k:Nat) (ds ps:List Int) (dv qv:Value) (s:Sv) (l:List HP) (w:World),zeros (ownL ds ps)<k→WIn n rs F K ds ps s→(∀w,Mem w0 l w→RdsCl w cv rs)→Rd w0 l dv 1 ds.length (ds.map (Value.int .i64))→Rd w0 l qv 1 ps.length (ps.map (Value.int .i64))→Mem w0 (svE b n cv s::l) w→
    Calls Tryz.prog 60 #[.pointer (some ⟨b,0,none⟩),dv,qv] w (fun e_ w_=>∃v_ p_,e_=.returned v_∧(fun u_ p_=>∃(s2:Sv) (cd:Int),u_=.int .i64 cd∧p_=svE b n cv s2∧WPost n rs F (ownL ds ps) s.v s2.v cd s2.fo∧(s2.pr.length:Int)-s.pr.length≤s2.v-s.v∧PrTo n rs ds s s2 cd) v_ p_∧Mem w0 (p_::l) w_)
  | 0,ds,ps,dv,qv,s,l,w,hk,_,_,_,_,_=>absurd hk (by omega)
  | k+1,ds,ps,dv,qv,s,l,w,hk,hin,hcl,hdv,hqv,hm=>vE b n cv rs F K ds ps dv qv s w0 l w hm c hin hcl hdv hqv (fun ds2 ps2 dv2 qv2 s9 l2 w2 hz hin2 hcl2 hdv2 hqv2 hm2=>qD b n cv rs F K w0 c k ds2 ps2 dv2 qv2 s9 l2 w2 (by omega) hin2 hcl2 hdv2 hqv2 hm2)
open Go.RowKit
structure PrfOk (n:Int) (rs pr:List CRow):Prop where
  ok:PrOk n (xsL rs) (xsL pr)
  cl:∀r∈pr,LitOk n r.xs
  last:∃L0,xsL pr=L0++[[]]
  len:pr.length≤600
theorem Ax {n:Int}{rs:List CRow}{F K:Nat}(c:WCtx n rs F K) (hF:F≤8) (hK:K≤300):WIn n rs F K [] (List.replicate n.toNat 0) (Sv.mk 0 (.slice none 0 0) [] (.slice none 0 0) []):=by
  have h0:=c.hr.n0
  have h1:=c.hr.n1
  have hz:zeros (ownL [] (List.replicate n.toNat 0))=n.toNat:=rY _
  refine⟨⟨by simp;omega,fun i hi=>by simp at hi;simp[hi]⟩,fun i hi=>absurd hi (by simp),by rw[hz];simp;omega,.inr ?_,by simp,by simp,Dv.start _ _ _,⟨PrOk.nil _ _,fun r hr=>by cases hr⟩⟩
  have hp:pw F (ownL [] (List.replicate n.toNat 0))≤7:=by
    have:=qC (((List.replicate n.toNat (0:Int)).take F).drop 1)
    rw[List.length_drop,List.length_take] at this
    show zeros (((List.replicate n.toNat (0:Int)).take F).drop 1)≤7
    omega
  have h9:=qN (show pw F (ownL [] (List.replicate n.toNat 0))+1≤8 by omega)
  have h8:(2:Int) ^ 8=256:=by decide
  show(0:Int)+2 ^ (pw F (ownL [] (List.replicate n.toNat 0))+1)+K≤600
  omega
theorem xT (n:Int) (cv:Value) (rs:List CRow) (F K:Nat) (w:World) (c:WCtx n rs F K) (hF8:F≤8) (hK3:K≤300) (hone:cv.oneCell'=true) (hcl:RdsCl w cv rs) :
   Calls Tryz.prog 23 #[.agg #[.int .i64 n,cv],.int .i64 600] w (Ret w (fun v' post=>∃(cd:Int) (u q:Value) (bs:List Bl) (pr:List CRow),v'=.tuple #[.int .i64 cd,u,q]∧post=[clE q pr,rS9 4 1 u bs blC]∧SRes n rs cd bs∧(cd=2→PrfOk n rs pr))):=by
 have hn0:=c.hr.n0
 have hn1:=c.hr.n1
 refine bN (N:=57) (args:=[.agg #[jI n,cv],jI 600]) Tryz.func23 A A (cF ?_)
 refine cR A (cN A A) ?_
 intro b1
 refine aU 3 A (eP (aP A (aF (cs:=[jI n,cv]) A A A A A (aD 0 A 0 A)) ?_))
 refine dA A (aJ A A (fun w hm=>aY (mT n rs cv w c.hr (hcl.below hm.bel)))) (aM 3 A ?_)
 refine dA A (aJ A A (fun w hm=>aY (nW (by omega) (by omega) w))) (aU 2 A (aS A (bY (cF (aP A (aF (cs:=[jI n,cv]) A A A A A (aD 0 A 0 A)) (aM 1 A (aP A (dQ (cs:=#[jI n,cv,jI 600,jI 0,.slice none 0 0,.slice none 0 0]) A A (uW n 600 cv hone)) ?_)))))))
 refine cR A (cN A A) ?_
 intro b2
 refine aU 1 A (aC (bZ 1 A (aP A (cQ 0 A A A) (aP A (aN A A A (aH 1 A A)) ?_))))
 refine dP A (gN (z:=jI 0) (s:=1) (bytes:=8) (n:=(List.replicate n.toNat (0:Int)).length) (cs:=(mI (List.replicate n.toNat (0:Int)))) A Tryz.underlying26 A (by decide) A A (by first|(rw[List.length_replicate];done)|(rw[List.length_replicate];omega)) (by first|(rw[List.length_replicate];done)|(rw[List.length_replicate];omega)) (by rw[List.length_replicate];omega) (gY _)) ?_
 intro g3
 refine iR 3 [2,0,1] A A (by decide) ?_
 refine jE [svE b2 n cv (Sv.mk 0 (.slice none 0 0) [] (.slice none 0 0) []),rowE 3 1 (.slice (some ⟨g3,0,none⟩) ((List.replicate n.toNat (0:Int)).length) ((List.replicate n.toNat (0:Int)).length)) ((List.replicate n.toNat (0:Int)).length) (mI (List.replicate n.toNat (0:Int))),boxE b1 #[jI n,cv] 53] (fun w hm=>by
     have h1:=(hm.nilRow 3 1).nilRow 26 1
     have h2:=Mem.big (ps:=[]) h1
     have h3:Mem _ ([boxE b2 #[jI n,cv,jI 600,jI 0,.slice none 0 0,.slice none 0 0] 84,bigE (([]:List CRow).map cPart),rowE 26 1 (.slice none 0 0) 0 [],rowE 3 1 (.slice none 0 0) 0 []]++([rowE 3 1 (.slice (some ⟨g3,0,none⟩) ((List.replicate n.toNat (0:Int)).length) ((List.replicate n.toNat (0:Int)).length)) ((List.replicate n.toNat (0:Int)).length) (mI (List.replicate n.toNat (0:Int))),boxE b1 #[jI n,cv] 53])) w:=Mem.perm h2 (List.Perm.append_right ([rowE 3 1 (.slice (some ⟨g3,0,none⟩) ((List.replicate n.toNat (0:Int)).length) ((List.replicate n.toNat (0:Int)).length)) ((List.replicate n.toNat (0:Int)).length) (mI (List.replicate n.toNat (0:Int))),boxE b1 #[jI n,cv] 53]) (List.perm_append_comm (l₁:=[bigE (([]:List CRow).map cPart),rowE 26 1 (.slice none 0 0) 0 [],rowE 3 1 (.slice none 0 0) 0 []]) (l₂:=[boxE b2 #[jI n,cv,jI 600,jI 0,.slice none 0 0,.slice none 0 0] 84])))
     exact h3.big) ?_
 refine gK (R:=(fun u_ p_=>∃(s2:Sv) (cd:Int),u_=jI cd∧p_=svE b2 n cv s2∧WPost n rs F (ownL [] (List.replicate n.toNat (0:Int))) (Sv.mk 0 (.slice none 0 0) [] (.slice none 0 0) []).v s2.v cd s2.fo∧(s2.pr.length:Int)-(Sv.mk 0 (.slice none 0 0) [] (.slice none 0 0) []).pr.length≤s2.v-(Sv.mk 0 (.slice none 0 0) [] (.slice none 0 0) []).v∧PrTo n rs [] (Sv.mk 0 (.slice none 0 0) [] (.slice none 0 0) []) s2 cd)) 0 A A A A A (fun L w hX hm=>qD b2 n cv rs F K _ c (zeros (ownL [] (List.replicate n.toNat (0:Int)))+1) [] (List.replicate n.toNat (0:Int)) _ _ (Sv.mk 0 (.slice none 0 0) [] (.slice none 0 0) []) _ _ (by omega) (Ax c hF8 hK3) (fun w h=>hcl.below h.bel) (fun w h=>aG 0 A w (h.nilRow 3 1)) (fun w h=>aG 0 A w (hX w h)) hm) ?_
 intro v4 p5 R6
 obtain⟨s3,cd,rfl,rfl,hvp,hpl3,hpt⟩:=R6
 refine eC (l':=[svE b2 n cv s3,rowE 3 1 (.slice (some ⟨g3,0,none⟩) ((List.replicate n.toNat (0:Int)).length) ((List.replicate n.toNat (0:Int)).length)) ((List.replicate n.toNat (0:Int)).length) (mI (List.replicate n.toNat (0:Int))),boxE b1 #[jI n,cv] 53]) A ?_
 refine aU 1 A (aC (bD 1 A (bE (cF ?_))))
 refine cM A A A A A A (fun h7=>?_) (fun h7=>?_)
 refine aU 1 A (aR A (cF ?_))
 refine jM 4 1 ?_
 refine eC (l':=[rowE 4 1 (.slice none 0 0) (([]:List Bl).length) (([]:List Bl).flatMap blC),svE b2 n cv s3,rowE 3 1 (.slice (some ⟨g3,0,none⟩) ((List.replicate n.toNat (0:Int)).length) ((List.replicate n.toNat (0:Int)).length)) ((List.replicate n.toNat (0:Int)).length) (mI (List.replicate n.toNat (0:Int))),boxE b1 #[jI n,cv] 53]) A ?_
 refine aU 1 A (eP ?_)
 have hfol:s3.fo.length≤400:=by rcases hvp.r with⟨h9,h8,h7⟩|⟨h9, -⟩;(have:=h8.1.1;omega);(exfalso;omega)
 refine iR 4 [3,2,0,1] A A (by decide) ?_
 refine jE [boxE b2 #[jI n,cv,jI 600,jI s3.v,s3.pv,s3.fv] 84,bigE (s3.pr.map cPart),rS9 26 1 s3.pv s3.pr crowC,rI9 3 s3.fv s3.fo,rowE 4 1 (.slice none 0 0) (([]:List Bl).length) (([]:List Bl).flatMap blC),rowE 3 1 (.slice (some ⟨g3,0,none⟩) ((List.replicate n.toNat (0:Int)).length) ((List.replicate n.toNat (0:Int)).length)) ((List.replicate n.toNat (0:Int)).length) (mI (List.replicate n.toNat (0:Int))),boxE b1 #[jI n,cv] 53] gD ?_
 refine aM 1 A (aP A (dV A A) (aP A (cQ 5 A A A) (aP A (aN A A A (aH 0 A A)) (aP A (bC A Tryz.underlying26 A (aG 3 A)) (aU 1 A (bE ?_))))))
 refine iC (α:=Nat) (β:=Value) (γ:=List Bl) [0,1,2,4,5,6,7,8,19,29,30,35,36] A (fun j u zs=>[boxE b2 #[jI n,cv,jI 600,jI s3.v,s3.pv,s3.fv] 84,bigE (s3.pr.map cPart),rS9 26 1 s3.pv s3.pr crowC,rI9 3 s3.fv s3.fo,rS9 4 1 u zs blC,rowE 3 1 (.slice (some ⟨g3,0,none⟩) ((List.replicate n.toNat (0:Int)).length) ((List.replicate n.toNat (0:Int)).length)) ((List.replicate n.toNat (0:Int)).length) (mI (List.replicate n.toNat (0:Int))),boxE b1 #[jI n,cv] 53]) (fun j u zs=>[(9,u),(37,jI (j:Int))]) (fun j u zs=>j≤s3.fo.length∧zs=oneL s3.fo j) (fun j u zs=>s3.fo.length-j) 0 _ [] ⟨by omega,A⟩ (cT A) (dS A) ?_
 intro j u zs hi9
 obtain⟨hj,hz⟩:=hi9
 have hzl:zs.length=j:=by rw[hz];exact Dh hj
 refine cF ?_
 refine bQ A A A A A A (fun h10=>?_) (fun h10=>?_)
 refine bR (nF A (bY (fM (cF (aP A (dF 1 A A A A (aG 3 A)) (aP A (hC A A A (aG 3 A)) (aM 1 A ?_)))))))
 refine bR (bZ 2 A ?_)
 refine cM A A A A A A (fun h11=>?_) (fun h11=>?_)
 refine dP A (bB (z:=.bool false) (s:=1) (cs:=[.bool true]) A Tryz.underlying56 A (by decide) A (by kernel_rfl) A) ?_
 intro g12
 refine cW (i:=5) (z:=.bool false) (bytes:=1) A A A A Tryz.underlying56 (by kernel_rfl) A A A A (aG 0 A) (by simp[Value.oneCell']) (by first|omega|(simp only[List.length_append,List.length_cons,List.length_nil];omega)) (cH zs [(Bl.mk (true))]) (dY blC zs (Bl.mk (true)) _ A) (fun _=>A) ?_
 intro v13
 refine dJ 1 A (cK (bJ (aP A (dM A A A) (dJ 1 A ?_))))
 exact cI (j+1) v13 (zs++[(Bl.mk (true))]) ⟨by omega,by rw[hz];exact sO (by omega) (by first|rfl|assumption|(exact(decide_eq_true (by assumption)).symm)|(exact(decide_eq_false (by assumption)).symm))⟩ (by omega) (cT rfl) (eJ [1,0,0,0,0,0,0] rfl)
 refine dP A (bB (z:=.bool false) (s:=1) (cs:=[.bool false]) A Tryz.underlying56 A (by decide) A (by kernel_rfl) A) ?_
 intro g14
 refine cW (i:=5) (z:=.bool false) (bytes:=1) A A A A Tryz.underlying56 (by kernel_rfl) A A A A (aG 0 A) (by simp[Value.oneCell']) (by first|omega|(simp only[List.length_append,List.length_cons,List.length_nil];omega)) (cH zs [(Bl.mk (false))]) (dY blC zs (Bl.mk (false)) _ A) (fun _=>A) ?_
 intro v15
 refine dJ 1 A (cK (bJ (aP A (dM A A A) (dJ 1 A ?_))))
 exact cI (j+1) v15 (zs++[(Bl.mk (false))]) ⟨by omega,by rw[hz];exact sO (by omega) (by first|rfl|assumption|(exact(decide_eq_true (by assumption)).symm)|(exact(decide_eq_false (by assumption)).symm))⟩ (by omega) (cT rfl) (eJ [1,0,0,0,0,0,0] rfl)
 refine bR (nG A ?_)
 refine bM (dI ?_)
 refine aO (bF (bD 5 A ?_))
 refine aV (aQ ?_)
 refine aL (aZ 7 [4] A A (by decide) ?_)
 refine cZ (rowE 26 1 (.slice none 0 0) 0 []::[rS9 4 1 u zs blC]) (fun w hm=>hm.nilRow 26 1) ?_
 refine cZ _ lT ?_
 refine cZ [clE (.slice none 0 0) [],rS9 4 1 u zs blC] (fN (ps:=[bigE (([]:List CRow).map cPart),rowE 26 1 (.slice none 0 0) 0 []])) ?_
 exact bV (rs:=[.tmp 4,.tmp 5,.tmp 6]) (vs:=[jI cd,u,.slice none 0 0]) (post:=[clE (.slice none 0 0) [],rS9 4 1 u zs blC]) rfl ⟨rfl,rfl,rfl,trivial⟩ rfl (.refl _) ⟨_,_,_,zs,[],rfl,rfl,by rcases hvp.r with⟨h9,h8,h7⟩|⟨h9, -⟩;(have e9:=Bg h8;rw[hz,show j=s3.fo.length by omega];exact .inl ⟨h9,by rw[e9];exact h8,by rw[e9];exact h7⟩);(exfalso;omega),fun h9=>absurd h9 (by omega)⟩
 refine aU 1 A (aS A (cF ?_))
 refine cM A A A A A A (fun h16=>?_) (fun h16=>?_)
 refine aU 1 A (aR A (aC ?_))
 refine eE 3 [2,1,0] A A (by decide) ?_
 refine fE [boxE b2 #[jI n,cv,jI 600,jI s3.v,s3.pv,s3.fv] 84,bigE (s3.pr.map cPart),rS9 26 1 s3.pv s3.pr crowC,rI9 3 s3.fv s3.fo,rowE 3 1 (.slice (some ⟨g3,0,none⟩) ((List.replicate n.toNat (0:Int)).length) ((List.replicate n.toNat (0:Int)).length)) ((List.replicate n.toNat (0:Int)).length) (mI (List.replicate n.toNat (0:Int))),boxE b1 #[jI n,cv] 53] gD ?_
 refine Ad _ [49,30,29,19,8,7,6,2,1,0] A ?_
 refine cJ 7 [[],[],[1],[2],[3],[0],[]] [51,52,53,54,55,4,5] [jI cd,pI b2,pI b2,.pointer (some ⟨b2,0+4,none⟩),s3.pv,jI cd,.slice none 0 0] (by kernel_rfl) A ?_ ?_
 exact⟨bK A (aK A) A,bK A (aK A) A,bK A (dV A A) A,bK A (cQ 4 A A A) A,bK A (aN A A A (aH 0 A A)) A,bK A (aK A) A,bK A (aK A) A,trivial⟩
 simp only[List.drop_succ_cons,List.drop_zero]
 refine aU 1 A ?_
 refine aV (aQ ?_)
 refine aL (aZ 6 [5,4,3,0,2,1] A A (by decide) ?_)
 refine cZ [clE s3.pv s3.pr,boxE b2 #[jI n,cv,jI 600,jI s3.v,s3.pv,s3.fv] 84,rI9 3 s3.fv s3.fo,rowE 3 1 (.slice (some ⟨g3,0,none⟩) ((List.replicate n.toNat (0:Int)).length) ((List.replicate n.toNat (0:Int)).length)) ((List.replicate n.toNat (0:Int)).length) (mI (List.replicate n.toNat (0:Int))),boxE b1 #[jI n,cv] 53] (fN (ps:=[bigE (s3.pr.map cPart),rS9 26 1 s3.pv s3.pr crowC])) ?_
 refine cZ (rowE 4 1 (.slice none 0 0) 0 []::[clE s3.pv s3.pr,boxE b2 #[jI n,cv,jI 600,jI s3.v,s3.pv,s3.fv] 84,rI9 3 s3.fv s3.fo,rowE 3 1 (.slice (some ⟨g3,0,none⟩) ((List.replicate n.toNat (0:Int)).length) ((List.replicate n.toNat (0:Int)).length)) ((List.replicate n.toNat (0:Int)).length) (mI (List.replicate n.toNat (0:Int))),boxE b1 #[jI n,cv] 53]) (fun w hm=>hm.nilRow 4 1) ?_
 refine aZ 6 [0,1] A A (by decide) ?_
 exact bV (rs:=[.tmp 4,.tmp 5,.tmp 6]) (vs:=[jI cd,.slice none 0 0,s3.pv]) (post:=[clE s3.pv s3.pr,rowE 4 1 (.slice none 0 0) 0 []]) A ⟨A,A,A,trivial⟩ A (.refl _) ⟨_,_,_,[],s3.pr,A,A,by rcases hvp.r with⟨h9, -⟩|⟨h9,h8, -⟩;(exfalso;omega);exact .inr ⟨h9,rfl,Di h8⟩,fun h9=>⟨hpt.1.ok,hpt.1.cl,hpt.2.2 h9,by have h8:=hvp.mono.2;have h7:(s3.pr.length:Int)-(0:Nat)≤s3.v-0:=hpl3;omega⟩⟩
 refine aU 1 A (hH A (cK (bD 4 A ?_)))
 refine aV ?_
 exfalso
 rcases hvp.r with⟨h9, -⟩|⟨h9, -⟩<;>omega
open Go.RowKit
theorem Bq {N k:Nat}:(List.replicate N (0:Int)).getD k 0=0:=by
  rw[List.getD_eq_getElem?_getD,List.getElem?_replicate];split<;>rfl
structure NegI (n:Int) (xs ps:List Int) (i:Nat):Prop where
  ok:PsOk n ps
  f:∀j,j<i→valI ps (xs.getD j 0) = -1
theorem NegI.start (n:Int) (xs:List Int) (h:0≤n):NegI n xs (List.replicate n.toNat 0) 0:=⟨⟨by simp;omega,fun i _=>by rw[Bq];omega⟩,fun j hj=>absurd hj (Nat.not_lt_zero _)⟩
theorem Az {n:Int}{ps:List Int}(h:PsOk n ps) {l:Int}(hl:l≠0∧-n≤l∧l≤n):valI (decL ps (-l)) l = -1:=by
  have hp:=h.1
  unfold decL valI
  by_cases c:0 < -l
  · rw[if_pos c,if_pos (by omega),eR (by omega)]
  · rw[if_neg c,if_neg (by omega),Int.neg_neg,eR (by omega)]
theorem NegI.step {n:Int}{xs ps:List Int}{i:Nat}(h:NegI n xs ps i) (hi:i<xs.length) (hx:LitOk n xs) (hv:valI ps (xs.getD i 0)≠1):NegI n xs (decL ps (-xs.getD i 0)) (i+1):=⟨yX h.ok _,fun j hj=>by
  have hxi:=hx.2 i hi
  have hs:=Az h.ok hxi
  by_cases e:j=i
  · subst e;exact hs
  · have hxj := hx.2 j (by omega)
    have h1:=h.f j (by omega)
    by_cases c:xs.getD j 0=xs.getD i 0
    · rw[c];exact hs
    · have h2 : valI ps (-xs.getD j 0) = 1 := kP hxj.1 h1
      have hne : -xs.getD j 0≠xs.getD i 0:=fun e2=>hv (by rw[←e2];exact h2)
      have hr:=tI (yX h.ok (-xs.getD i 0)) (l:=xs.getD j 0) hxj.1 hxj.2.1 hxj.2.2
      -- the place of another variable is not touched
      have key:valI (decL ps (-xs.getD i 0)) (xs.getD j 0)=valI ps (xs.getD j 0):=by
        unfold decL valI
        by_cases p:0 < -xs.getD i 0<;>by_cases q:xs.getD j 0<0<;>simp only[p,q,if_true,if_false]<;>rw[eO (by omega)]
      rw[key];exact h1⟩
theorem NegI.conf {n:Int}{rs:List CRow}{xs D ps out:List Int}{i:Nat}(h:NegI n xs ps i) (hi:xs.length≤i) (hD:xs=ngL D) (hx:LitOk n xs) (hr:ClOk n rs) (hrup:RUP n (xsL rs) D) (hz:PFx n rs ps out):False:=by
  have hc:Conf (xsL rs) ps:=hrup ps h.ok (fun d hd=>by
    obtain⟨j,hj,rfl⟩:=List.mem_iff_getElem.1 hd
    have hjx:j<xs.length:=by rw[hD];unfold ngL;rw[List.length_map];exact hj
    have e:xs.getD j 0 = -D[j]:=by
      rw[hD];unfold ngL
      rw[List.getD_eq_getElem?_getD,List.getElem?_map,List.getElem?_eq_getElem hj];rfl
    have h1:=h.f j (by omega)
    have h0:=(hx.2 j hjx).1
    have h2:=kP h0 h1
    rwa [e,Int.neg_neg] at h2)
  refine Ec (out:=out) (fun c hc2=>?_) (fun c hc2=>?_) (fun l h0 hv=>?_) hc
  · obtain ⟨r, hm, rfl⟩ := List.mem_map.1 hc2
    obtain⟨q,hq,rfl⟩:=List.mem_iff_getElem.1 hm
    have:=hr.ok q hq
    rw[List.getD_eq_getElem?_getD,List.getElem?_eq_getElem hq] at this
    exact Dq this
  · obtain ⟨r, hm, rfl⟩ := List.mem_map.1 hc2
    obtain⟨q,hq,rfl⟩:=List.mem_iff_getElem.1 hm
    have:=hz.fx q hq
    rwa [List.getD_eq_getElem?_getD,List.getElem?_eq_getElem hq] at this
  · have hb : -n≤l∧l≤n:=by
      have hp:=h.ok.1
      unfold valI at hv
      by_cases c:l<0
      · rw [if_pos c] at hv
        by_cases d:(-l-1).toNat<ps.length
        · omega
        · rw [List.getD_eq_getElem?_getD, List.getElem?_eq_none (by omega)] at hv
          have : -(0:Int)=1:=hv;omega
      · rw [if_neg c] at hv
        by_cases d:(l-1).toNat<ps.length
        · omega
        · rw [List.getD_eq_getElem?_getD, List.getElem?_eq_none (by omega)] at hv
          have:(0:Int)=1:=hv;omega
    exact zK hz.len h.ok hz.ext h0 hb.1 hb.2 hv
theorem zW {n:Int}{xs ps zs:List Int}{i:Nat}(h:NegI n xs ps i) (hi:i<xs.length) (hx:LitOk n xs) (hv:valI ps (xs.getD i 0)≠1) (hz:(0<xs.getD i 0∧zs=ps.set (xs.getD i 0-1).toNat (-1))∨(¬0<xs.getD i 0∧zs=ps.set (-xs.getD i 0-1).toNat 1)):NegI n xs zs (i+1):=by
  have h9:=h.step hi hx hv
  have h0:=(hx.2 i hi).1
  unfold decL at h9
  rcases hz with⟨p,e⟩|⟨p,e⟩
  · rw[if_neg (by omega),Int.neg_neg] at h9;rw[e];exact h9
  · rw[if_pos (by omega)] at h9;rw[e];exact h9
theorem yS (n:Int) (rs:List CRow) (v:Value) (xs D:List Int) (uv:Value) (w:World) (hr:ClOk n rs) (hv:RdsCl w v rs) (hu:RdsW w uv 1 xs.length (xs.map (Value.int .i64))) (hx:LitOk n xs) (hD:xs=ngL D) (hrup:RUP n (xsL rs) D) :
   Calls Tryz.prog 66 #[.agg #[.int .i64 n,v],uv] w (Ret w (fun u_ p_=>u_=.bool true∧p_=[])):=by
 have hn0:=hr.n0
 have hn1:=hr.n1
 have hxl:=hx.1
 have hrp:(List.replicate n.toNat (0:Int)).length=n.toNat:=List.length_replicate
 refine bN (N:=44) (args:=[.agg #[jI n,v],uv]) Tryz.func66 A A (cF ?_)
 refine cR A (cN A A) ?_
 intro b1
 refine aU 1 A (cF (aP A (cQ 0 A A A) (aP A (aN A A A (aH 0 A A)) ?_)))
 refine dP A (gN (z:=jI 0) (s:=1) (bytes:=8) (n:=(List.replicate n.toNat (0:Int)).length) (cs:=(mI (List.replicate n.toNat (0:Int)))) A Tryz.underlying26 A (by decide) A A (by first|(rw[List.length_replicate];done)|(rw[List.length_replicate];omega)) (by first|(rw[List.length_replicate];done)|(rw[List.length_replicate];omega)) (by rw[List.length_replicate];omega) (gY _)) ?_
 intro g2
 refine aU 1 A (aC (aC (bZ 1 A (aP A (bC A Tryz.underlying26 A (aE hu)) (aU 1 A (bE ?_))))))
 refine gT (α:=Nat) (β:=List Int) [0,1,2,4,5,13,14] A (fun i ps=>[rI9 3 (.slice (some ⟨g2,0,none⟩) ((List.replicate n.toNat (0:Int)).length) ((List.replicate n.toNat (0:Int)).length)) ps,boxE b1 #[jI n,v] 53]) (fun i ps=>[(15,jI (i:Int))]) (fun i ps=>i≤xs.length∧NegI n xs ps i) (fun i ps=>xs.length-i) 0 _ ⟨Nat.zero_le _,NegI.start n xs hn0⟩ (cT A) (dS A) ?_
 intro i ps hi3
 obtain⟨hi,hI⟩:=hi3
 have hpl:=hI.ok.1
 refine cF ?_
 refine bQ A A A A A A (fun h4=>?_) (fun h4=>?_)
 refine bR (nF A (bY (fM (cF (aP A (dF 1 A A A A (aE hu)) (aP A (hC A A A (aE hu)) (aM 1 A ?_)))))))
 refine bR (eP ?_)
 have hxi:=hx.2 i (by omega)
 refine aM 2 A (dA A (aJ A A (fun w hm=>aY (pA n ps _ (xs.getD i 0) w (aG 0 A w hm) hI.ok hxi hn1))) ?_)
 refine cM A A A A A A (fun h5=>?_) (fun h5=>?_)
 refine bR (aR A (bD 1 A ?_))
 refine aV (aL ?_)
 refine aQ (fL ?_)
 refine aQ (aL ?_)
 exact dX (post:=[]) A A (List.nil_sublist _) ⟨A,A⟩
 refine bR (aS A (bY (aC (bZ 1 A ?_))))
 refine fJ A A A A A A (fun h6=>?_) (fun h6=>?_)
 refine bR (aR A (bZ 2 A (aP A (iM A A A) (aP A (dF 1 A A A A (aG 0 A)) ?_))))
 refine eN (i:=0) (n':=(ps.set (((xs.getD i 0)-1).toNat) (-1)).length) (xs':=(mI (ps.set (((xs.getD i 0)-1).toNat) (-1)))) A A A A A A A A (by first|omega|(simp only[List.length_set];omega)) List.length_set.symm (fB _ _ _) A (dB (cK (bJ (aP A (dM A A A) (dJ 1 A ?_)))))
 exact cG (i+1) (ps.set (((xs.getD i 0)-1).toNat) (-1)) ⟨by omega,zW hI (by omega) hx (by omega) (.inl ⟨by omega,by congr 1⟩)⟩ (by omega) (cT A) (dS A)
 refine bR (aS A (bZ 2 A (aP A (iG A A (by omega) (by omega)) (aP A (iM A A A) (aP A (dF 1 A A A A (aG 0 A)) ?_)))))
 refine eN (i:=0) (n':=(ps.set (((-(xs.getD i 0))-1).toNat) 1).length) (xs':=((ps.set (((-(xs.getD i 0))-1).toNat) 1).map (Value.int .i64))) A A A A A A A A (by first|omega|(simp only[List.length_set];omega)) List.length_set.symm (fB _ _ _) A (dB (cK (bJ (aP A (dM A A A) (dJ 1 A ?_)))))
 exact cG (i+1) (ps.set (((-(xs.getD i 0))-1).toNat) 1) ⟨by omega,zW hI (by omega) hx (by omega) (.inr ⟨by omega,by congr 1⟩)⟩ (by omega) (cT A) (dS A)
 refine bR (nG A ?_)
 refine bM (dI ?_)
 refine aO (bF (cF (aP A (cQ 1 A A A) (aP A (aN A A A (aH 1 A A)) (aM 1 A ?_)))))
 refine eB A A A (aJ A A (fun w hm=>nP n rs v ps _ w hr (hv.below hm.bel) hI.ok (aG 0 A w hm))) ?_
 intro v7 p8 R9
 obtain⟨pu,out,pok,rfl,rfl,hpok,hpfx,hpcf⟩:=R9
 refine aM 3 A (bW (fun h10=>?_) (fun h10=>?_))
 refine aU 2 A (bD 3 A ?_)
 exact aV ((hI.conf (by omega) hD hx hr hrup (hpfx (by assumption)).1).elim)
 refine aU 2 A (bD 3 A ?_)
 exact aV (dX (post:=[]) A A (List.nil_sublist _) ⟨A,A⟩)
theorem yW {xs:List CRow}(h:∀r∈xs,r.v.oneCell'=true):∀u∈xs.flatMap crowC,u.oneCell'=true:=fun u hu=>by
  obtain⟨r,hr,h1⟩:=List.mem_flatMap.1 hu
  simp only[crowC,List.mem_singleton] at h1
  subst h1;exact h r hr
theorem prf_at {n:Int}{rs pr:List CRow}(h:PrfOk n rs pr) {i:Nat}(hi:i<pr.length):∃D,(pr.getD i crow0).xs=ngL D∧RUP n (xsL (rs++pr.take i)) D:=by
  obtain⟨D,e,hr⟩:=h.ok i (by simp[xsL];exact hi)
  refine⟨D,?_,?_⟩
  · rw[←e];simp[xsL,hi]
  · have e2 : xsL (rs ++ pr.take i) = xsL rs ++ (xsL pr).take i := by simp [xsL, List.map_take]
    rw[e2];exact hr
theorem Cy {n:Int}{rs pr:List CRow}(h:PrfOk n rs pr):1≤pr.length∧(pr.getD (pr.length-1) crow0).xs=[]:=by
  obtain⟨L0,e⟩:=h.last
  have hl:pr.length=L0.length+1:=by have:=congrArg List.length e;simpa [xsL] using this
  refine⟨by omega,?_⟩
  have h2:(xsL pr).getD (pr.length-1) []=[]:=by
    rw[e,hl,Nat.add_sub_cancel,List.getD_eq_getElem?_getD,List.getElem?_concat_length];rfl
  have h3:(xsL pr).getD (pr.length-1) []=(pr.getD (pr.length-1) crow0).xs:=by simp[xsL,show pr.length-1<pr.length by omega]
  rw[←h3];exact h2
theorem Gd {n:Int}{rs pr:List CRow}(hr:ClOk n rs) (hp:∀r∈pr,LitOk n r.xs) {i:Nat}(hi:i≤pr.length) (hl:rs.length+pr.length≤1600):ClOk n (rs++pr.take i):=by
  refine⟨hr.n0,hr.n1,by rw[List.length_append,List.length_take];omega,fun k hk=>?_⟩
  have hm:=dO (es:=rs++pr.take i) (i:=k) (d:=crow0) hk
  rcases List.mem_append.1 hm with h|h
  · obtain ⟨q, hq, e⟩ := List.mem_iff_getElem.1 h
    have:=hr.ok q hq
    rw[List.getD_eq_getElem?_getD,List.getElem?_eq_getElem hq] at this
    rw[←e];exact this
  · exact hp _ (List.mem_of_mem_take h)
theorem Cx {w:World}{v av pv:Value}{rs pr qs:List CRow}{i:Nat}(he:qs=rs++pr.take i) (h1:RdsCl w v rs) (h2:RdsCl w pv pr) (h3:RdsW w av 1 qs.length (qs.flatMap crowC)):RdsCl w av qs:=⟨h3,fun r hr=>by
  rw[he] at hr
  rcases List.mem_append.1 hr with h|h
  · exact h1.2 r h
  · exact h2.2 r (List.mem_of_mem_take h)⟩
theorem xX {P:Program}{N:Nat}{w0:World}{l:List HP}{env:List (Nat×Value)}{o:Oper}{t:TypeId}{ps:Array (Nat×Operand)}{vs:List (Nat×Value)}{cs:Array Value}(ho:o.op=.build t ps)
    (hp:ps.toList.mapM (fun p=>(ev env p.2).map fun v=>(p.1,v))=some vs) (hb:∀w,Mem w0 l w→P.built t vs=some cs):RunV P N w0 l env o (.agg cs):=fun a w st=>dQ ho hp (hb w st.mem) a w st
theorem zC (x0:Int) (x1:Value) (h1:x1.oneCell'=true):Tryz.prog.built 53 [(0,.int .i64 x0),(1,x1)]=some #[.int .i64 x0,x1]:=by
  (cases x1<;>first|(exact absurd h1 Bool.false_ne_true)|kernel_rfl)
theorem rO (n:Int) (rs:List CRow) (v:Value) (pr:List CRow) (pv:Value) (w:World) (hr:ClOk n rs) (hv:RdsCl w v rs) (hp:RdsCl w pv pr) (hP:PrfOk n rs pr) (hlen:rs.length+pr.length≤1600) :
   Calls Tryz.prog 29 #[.agg #[.int .i64 n,v],pv] w (Ret w (fun u_ p_=>u_=.bool true∧p_=[])):=by
 have hn0:=hr.n0
 have hn1:=hr.n1
 obtain⟨hlst1,hlst2⟩:=Cy hP
 have hp600:=hP.len
 refine bN (N:=67) (args:=[.agg #[jI n,v],pv]) Tryz.func29 A A (cF ?_)
 refine cR A (cN A A) ?_
 intro b1
 refine aU 1 A (eP (aP A (aF (cs:=[jI n,v]) A A A A A (aD 0 A 0 A)) ?_))
 refine dA A (aJ A A (fun w hm=>aY (mT n rs v w hr (hv.below hm.bel)))) (aM 3 A (aP A (bC A Tryz.underlying33 A (aE hp.row)) ?_))
 refine dA A (aJ A A (fun w hm=>aY (nW (by omega) (by omega) w))) (aM 3 A (aP A (cQ 1 A A A) (aP A (aN A A A (aH 0 A A)) (aP A (bC A Tryz.underlying33 A (aE hv.row)) (aM 1 A (aP A (bC A Tryz.underlying33 A (aE hp.row)) (aP A (dM A A A) ?_)))))))
 refine fJ A A A A A A (fun h2=>?_) (fun h2=>?_)
 refine aU 11 A (aR A (cF ?_))
 refine aU 1 A ?_
 refine aV (aL ?_)
 exfalso
 omega
 refine aM 4 A (aP A (bC A Tryz.underlying33 A (aE hp.row)) (aP A (iM A A A) ?_))
 obtain⟨e,hme⟩:∃e:Nat,(pr.length:Int)-1=(e:Int):=⟨pr.length-1,by omega⟩
 rw[hme]
 have hme2:pr.length-1=e:=by omega
 rw[hme2] at hlst2
 refine aP A (dF 1 A A A A (aE hp.row)) (aP A (bG (u:=(pr.getD e crow0).v) A A A (aE hp.row) (dG crowC (fun r=>r.v) (fun _=>A) pr crow0 (show e<_ by omega))) ?_)
 have hle:(pr.getD e crow0).xs.length=0:=by rw[hlst2];rfl
 refine aP A (bC A Tryz.underlying26 A (aE (hp.at (k:=e) (by omega)))) (fJ A A A A A A (fun h3=>?_) (fun h3=>?_))
 refine aU 1 A (aR A (bD 1 A ?_))
 refine aV (aL ?_)
 exfalso
 omega
 refine aU 1 A (aS A (bY (aC ?_)))
 refine eF (l:=[boxE b1 #[jI n,v] 53]) A 8 [0,1,2,3,4,5,6,7] (List.take 8 _) (List.drop 8 _) [[],[0],[],[],[3],[2,4],[1,5],[]] [some 36,some 37,some 38,some 39,some 40,some 41,some 42,some 5] (fun i_ vs_ v_ p_=>match i_ with|0=>v_=.pointer (some ⟨b1,0+0,none⟩)∧p_=[]|1=>v_=jI n∧p_=[]|2=>IsRow 26 1 0 ([]) v_ p_|3=>v_=.pointer (some ⟨b1,0+1,none⟩)∧p_=[]|4=>v_=v∧p_=[]|5=>(∃pm_,p_=[pm_]∧(fun u_ p_=>p_=rS9 26 1 u_ rs crowC) v_ pm_)|6=>v_=.agg #[jI n,(gV9 vs_ 1)]∧p_=[]|7=>IsBox #[jI 0,.slice none 0 0] 53 v_ p_|_=>True) [[],[0],[],[],[3],[4],[1,5],[]] [none,none,none,none,none,some 2,none,none] [] [0,1,3,4,5,6,7] 9 (List.take_append_drop 8 _).symm (by kernel_rfl) (by kernel_rfl) (by kernel_rfl) A A ?_ ?_
 refine⟨?_,?_,?_,?_,?_,?_,?_,?_,trivial⟩
 intro vf pf hmu hR
 refine bL [] [] A (bH (aI [2] A) ?_)
 exact aT (cQ 0 A A A)
 intro vf pf hmu hR
 have e0:=hR 0 (by decide)
 refine bL [0] [0] A (aW (sk 36 (congrArg some e0.1) (aB _)) (List.sublist_append_right _ _) ?_)
 exact aT (aN A A A (aH 0 A A))
 intro vf pf hmu hR
 refine bL [] [] A (aW (aB _) (List.sublist_append_right _ _) ?_)
 exact dH (s:=1) A Tryz.underlying33 A
 intro vf pf hmu hR
 refine bL [] [] A (bH (aI [2] A) ?_)
 exact aT (cQ 1 A A A)
 intro vf pf hmu hR
 have e3:=hR 3 (by decide)
 refine bL [3] [3] A (aW (sk 39 (congrArg some e3.1) (aB _)) (List.sublist_append_right _ _) ?_)
 exact aT (aN A A A (aH 0 A A))
 intro vf pf hmu hR
 have e2:IsRow 26 1 0 ([]) (vf 2) (pf 2):=hR 2 (by decide)
 obtain⟨g4,vE2,pE2⟩:=e2
 have e4:=hR 4 (by decide)
 refine Or.inl ⟨A,?_⟩
 show RunM _ _ _ (pf 2) (([4]:List Nat).flatMap pf++_) (envOf3 _ vf [2,4]++_) _ _
 rw[pE2];rw[vE2]
 exact cV (sk 38 (congrArg some vE2) (sk 40 (congrArg some e4.1) (aB _))) (by simp only[e4.2,fS]<;>rfl) (gV (d:=0) (z:=.slice none 0 0) (bytes:=24) (n':=rs.length) (xs':=(rs.flatMap crowC)) A Tryz.underlying33 A A A A (aE hv.row) (yW (fun r hr=>(hv.xs r hr).one)) (by first|omega|(simp only[List.length_take,List.length_drop];omega)) (Nat.zero_add _) (List.nil_append _))
 intro vf pf hmu hR
 have e1:=hR 1 (by decide)
 have e5:(∃pm_,(pf 5)=[pm_]∧(fun u_ p_=>p_=rS9 26 1 u_ rs crowC) (vf 5) pm_):=hR 5 (by decide)
 obtain⟨p6,pE5,R7⟩:=e5
 obtain⟨v5,vE5⟩:∃x,vf 5=x:=⟨_,rfl⟩
 rw[vE5] at R7
 subst R7
 refine bL [1,5] [1,5] A (bU (sk 37 (congrArg some e1.1) (sk 41 (congrArg some vE5) (aB _))) (by simp only[pE5,vE5,e1.2,fS]<;>rfl) ?_)
 exact cD (aT (xX (cs:=#[jI n,v5]) A A (fun w hm=>zC n v5 ((aG 0 A w hm).one)))) (fun _ _ h=>⟨h.1.trans (by show _=(.agg #[jI n,(vf 5)]:Value);first|(rw[vE5];done)|(rw[vE5];rfl)),h.2⟩)
 intro vf pf hmu hR
 refine bL [] [] A (aW (aB _) (List.sublist_append_right _ _) ?_)
 exact bP (z:=.agg #[jI 0,.slice none 0 0]) A A
 intro vf pf hmu hR
 have e2:IsRow 26 1 0 ([]) (vf 2) (pf 2):=hR 2 (by decide)
 obtain⟨g4,vE2,pE2⟩:=e2
 have e5:(∃pm_,(pf 5)=[pm_]∧(fun u_ p_=>p_=rS9 26 1 u_ rs crowC) (vf 5) pm_):=hR 5 (by decide)
 obtain⟨p6,pE5,R7⟩:=e5
 obtain⟨v5,vE5⟩:∃x,vf 5=x:=⟨_,rfl⟩
 rw[vE5] at R7
 subst R7
 have e6:(vf 6)=.agg #[jI n,(vf 5)]∧(pf 6)=[]:=hR 6 (by decide)
 rw[vE5] at e6
 have e7:IsBox #[jI 0,.slice none 0 0] 53 (vf 7) (pf 7):=hR 7 (by decide)
 obtain⟨b8,vE7,pE7⟩:=e7
 have q0:=hR 0 (by decide)
 have q1:=hR 1 (by decide)
 have q3:=hR 3 (by decide)
 have q4:=hR 4 (by decide)
 have q6:=hR 6 (by decide)
 refine cE (bO [4,2,1,0] _ (sk 5 (congrArg some vE7) (sk 35 A (sk 42 (congrArg some e6.1) (aB _)))) A) (by simp only[pE5,vE5,pE7,vE7,q0.2,q1.2,q3.2,q4.2,q6.2,fS]<;>rfl) ?_
 simp only[List.drop_succ_cons,List.drop_zero]
 refine dZ (i:=0) A (fun ho9=>?_)
 refine bI (cs':=#[jI n,v5]) (i:=1) (off:=0) (us:=[jI n,v5]) A A A A A A A (aA A (aA ho9 bA)) A A A (bR (aC (aC (bZ 1 A (aP A (bC A Tryz.underlying33 A (aE hp.row)) (aU 1 A (bE ?_)))))))
 refine iC (α:=Nat) (β:=Value) (γ:=List CRow) [0,1,2,4,5,35,43,44] A (fun i av qs=>[rS9 26 1 av qs crowC,boxE b8 #[jI n,av] 53,boxE b1 #[jI n,v] 53]) (fun i av qs=>[(45,jI (i:Int))]) (fun i av qs=>i≤pr.length∧qs=rs++pr.take i) (fun i av qs=>pr.length-i) 0 _ rs ⟨Nat.zero_le _,by simp⟩ (cT A) (dS A) ?_
 intro i av qs hi10
 obtain⟨hi,hqe⟩:=hi10
 have htl:qs.length=rs.length+i:=by rw[hqe,List.length_append,List.length_take];omega
 have hck:ClOk n qs:=by rw[hqe];exact Gd hr hP.cl (by omega) (by omega)
 refine cF ?_
 refine bQ A A A A A A (fun h11=>?_) (fun h11=>?_)
 refine bR (nF A (bY (fM (cF (aP A (dF 1 A A A A (aE hp.row)) ?_)))))
 refine aP A (bG (u:=(pr.getD i crow0).v) A A A (aE hp.row) (dG crowC (fun r=>r.v) (fun _=>A) pr crow0 (show i<_ by omega))) (aU 1 A (eP ?_))
 obtain⟨D,hD,hrup⟩:=prf_at hP (i:=i) (by omega)
 rw[←hqe] at hrup
 have hli:=hP.cl _ (dO (es:=pr) (i:=i) (d:=crow0) (by omega))
 refine aM 1 A (aP A (cQ 0 A A A) (aP A (aN A A A (aH 2 A A)) ?_))
 refine dA A (aJ A A (fun w hm=>aY (oF n (pr.getD i crow0).xs _ w ((hp.at (k:=i) (by omega)).below hm.bel) hli ⟨hn0,hn1⟩))) (aM 2 A (aP A (aF (cs:=[jI n,av]) A A A A A (aD 1 A 0 A)) (aM 1 A ?_)))
 refine dA A (aJ A A (fun w hm=>yS n qs av (pr.getD i crow0).xs D _ w hck (Cx hqe (hv.below hm.bel) (hp.below hm.bel) (aG 0 A w hm)) ((hp.at (k:=i) (by omega)).below hm.bel) hli hD hrup)) (aU 2 A (aS A (bY (bJ (aP A (cQ 1 A A A) (aP A (aN A A A (aH 1 A A)) (aM 1 A ?_)))))))
 refine dP A (fH A Tryz.underlying33 (by kernel_rfl) A (hp.at (k:=i) (by omega)).one) ?_
 intro g12
 refine cW (i:=1) (z:=.slice none 0 0) (bytes:=24) A A A A Tryz.underlying33 (by kernel_rfl) A A A A (aG 0 A) (fun q hq=>by rw[List.mem_singleton] at hq;subst hq;exact(hp.at (k:=i) (by omega)).one) (by first|omega|(simp only[List.length_append,List.length_cons,List.length_nil];omega)) (cH qs [(pr.getD i crow0)]) (dY crowC qs (pr.getD i crow0) _ A) (fun _=>A) ?_
 intro v13
 refine aP A (cQ 1 A A A) (dZ (i:=1) A (fun ho14=>?_))
 refine fI (i:=2) (cs':=#[jI n,v13]) A A A A A A ho14 A A A A (dB (cK (bJ (aP A (dM A A A) (dJ 1 A ?_)))))
 exact cI (i+1) v13 (qs++[(pr.getD i crow0)]) ⟨by omega,by rw[hqe,eT crow0 (show i<pr.length by omega),List.append_assoc]⟩ (by omega) (cT rfl) (eJ [1,0,0] rfl)
 refine bR (nG A ?_)
 refine bM (dI ?_)
 refine aO (bF (bD 1 A ?_))
 exact aV (dX (post:=[]) A A (List.nil_sublist _) ⟨A,A⟩)
theorem Ew {n:Nt}(hn:NtOk n) {l:Int}{rs:List CRow}{xs:List Int}(h:NcOk n l rs xs) (h0:0≤l) (h1:l<2*n.cnt):WCtx n.cnt rs n.fst.toNat n.gs.length:=by
  have hi0:=hn.i0
  have hfst:n.fst=1+n.ins+n.ss.length:=rfl
  have hcnt:n.cnt=1+n.ins+n.ss.length+n.gs.length:=rfl
  refine⟨h.cl hn h0 h1,by omega,fun zs hp hf hz=>?_,fun zs hp hf=>?_⟩
  rotate_left
  · have h9 := tY h hf (c := [-1]) (by unfold ncL; exact List.mem_append.2 (.inl (List.mem_append.2 (.inl (by simp)))))
    intro hz0
    have hv:valI zs (-1)=0:=by
      have h2:=jB zs (l:=0+1) (by omega)
      rw[lE (Int.le_refl 0)] at h2
      have h4:valI zs (-1) = -zs.getD (0:Int).toNat 0:=h2
      rw[h4];show -zs.getD 0 0=0;rw[hz0];rfl
    rcases h9 with⟨i,hi,e⟩|⟨i,j,hi,hj,e1,e2,e3⟩
    · have : i = 0 := by simpa using hi
      subst this;have e4:valI zs (-1)=1:=e;omega
    · have i0 : i = 0 := by simpa using hi
      have j0:j=0:=by simpa using hj
      subst i0;subst j0;exact e3 rfl
  have hzl:=hp.1
  have hl:∀k:Int,0≤k→k<n.fst→zs.getD k.toNat 0≠0:=fun k k0 k1=>hz k.toNat (by omega) (by omega)
  have hall:∀k∈xs,zs.getD k.toNat 0≠0:=fun k hk=>rE hn h hf hl (k.toNat+1) k (by omega) hk
  intro q hq
  refine fx_all (hf q hq) (fun x hx=>?_)
  have hm:(rs.getD q crow0).xs∈rs.map CRow.xs:=List.mem_map.2 ⟨_,bS hq,rfl⟩
  rw[h.rs] at hm
  rcases List.mem_append.1 hm with hm|hm
  · unfold ncL at hm
    rw[List.take_length] at hm
    rcases List.mem_append.1 hm with hm|hm
    · rw [List.mem_singleton] at hm
      rw[hm,List.mem_singleton] at hx
      subst hx
      have h2:=jB zs (l:=0+1) (by omega)
      rw[lE (Int.le_refl 0)] at h2
      have h3:=hl 0 (by omega) (by omega)
      have h4:valI zs (-1) = -zs.getD (0:Int).toNat 0:=h2
      omega
    · obtain ⟨k, hk, hc⟩ := List.mem_flatMap.1 hm
      obtain⟨hkx,hka⟩:=List.mem_filter.1 hk
      obtain⟨r0,r1⟩:=gX.1 hka
      obtain⟨o1,o2,o3,o4,o5,o6⟩:=kI hn r0 r1
      obtain⟨m1,m2⟩:=h.cone.clo k hkx r0
      obtain⟨a1,a2,a3⟩:=qG o3 (hall _ m1)
      obtain⟨b1,b2,b3⟩:=qG o5 (hall _ m2)
      have g0:=lE (zs:=zs) (k:=k) (by omega)
      have g1:=jB zs (l:=k+1) (by omega)
      have g2:=hall k hkx
      generalize (rs.getD q crow0).xs=cc at hx hc
      simp only[clK,List.mem_cons,List.not_mem_nil,or_false] at hc
      rcases hc with rfl|rfl|rfl<;>(simp only[List.mem_cons,List.not_mem_nil,or_false] at hx)
      · rcases hx with rfl|rfl<;>omega
      · rcases hx with rfl|rfl<;>omega
      · rcases hx with rfl|rfl|rfl<;>omega
  · rw [List.mem_singleton] at hm
    rw[hm,List.mem_singleton] at hx
    subst hx
    exact(qG h0 (hall _ h.cone.top)).1
def bvB (vs:List Int):Nat→Int
  | 0=>0
  | k+1=>bvB vs k+vs.getD (1+k) 0 % 2*2 ^ k
theorem rG (vs:List Int):∀k,0≤bvB vs k∧bvB vs k<2 ^ k
  | 0=>⟨Int.le_refl _,by show(0:Int)<2 ^ 0;decide⟩
  | k+1=>by
    have ih:=rG vs k
    have hp:(0:Int)<2 ^ k:=Int.pow_pos (by decide)
    have hm:vs.getD (1+k) 0 % 2=0∨vs.getD (1+k) 0 % 2=1:=by omega
    unfold bvB
    rw[Int.pow_succ]
    rcases hm with e|e<;>rw[e]<;>omega
theorem zA (vs : List Int) : ∀ k i, i < k → bvB vs k / 2 ^ i % 2 = vs.getD (1 + i) 0 % 2
  | 0,i,h=>absurd h (by omega)
  | k+1,i,h=>by
    have hp:(2:Int) ^ i≠0:=by have:(0:Int)<2 ^ i:=Int.pow_pos (by decide);omega
    unfold bvB
    by_cases c:i=k
    · subst c
      rw[Int.add_mul_ediv_right _ _ hp,Int.ediv_eq_zero_of_lt (rG vs i).1 (rG vs i).2]
      omega
    · obtain ⟨m, rfl⟩ : ∃ m, k = i + 1 + m := ⟨k - (i + 1), by omega⟩
      have e:vs.getD (1+(i+1+m)) 0 % 2*2 ^ (i+1+m)=(vs.getD (1+(i+1+m)) 0 % 2*2 ^ m*2)*2 ^ i:=by
        rw[Int.pow_add,Int.pow_succ];simp only[Int.mul_comm,Int.mul_left_comm,Int.mul_assoc]
      rw[e,Int.add_mul_ediv_right _ _ hp,Int.add_mul_emod_self_right]
      exact zA vs (i+1+m) i (by omega)
theorem Fr {n : Nt} {vs : List Int} (hi : 0 ≤ n.ins) (h01 : B01 vs) (hl : 1 + n.ins.toNat + n.ss.length ≤ vs.length) (h0 : vs.getD 0 0 = 0) {k : Nat} (hk : k < 1 + n.ins.toNat + n.ss.length) :
    (valsL n (stB n (bvB vs (n.ins.toNat+n.ss.length)) n.ss.length) (bvB vs (n.ins.toNat+n.ss.length))).getD k 0=vs.getD k 0:=by
  generalize hb:bvB vs (n.ins.toNat+n.ss.length)=b
  have hsl:=hY n b n.ss.length
  rw[kO n _ b n.gs.length 0 (by omega) (Nat.le_refl _) k (by rw[gE _ _ _ 0 (by omega),hsl];omega)]
  show(leafL n (stB n b n.ss.length) b).getD k 0=_
  have hv:=h01 k (by omega)
  unfold leafL
  by_cases c0:k=0
  · subst c0;rw[h0];rfl
  · by_cases c1 : k < 1 + n.ins.toNat
    · rw [fZ (by simp; omega), fK (by simp; omega)]
      simp only[List.length_singleton]
      have e1:((List.range n.ins.toNat).map (fun k=>b / 2 ^ k % 2)).getD (k-1) 0=b / 2 ^ (k-1) % 2:=by simp[show k-1<n.ins.toNat by omega]
      rw[e1,←hb,zA vs _ (k-1) (by omega),show 1+(k-1)=k by omega]
      omega
    · rw [fK (by simp; omega)]
      have e2:([(0:Int)]++(List.range n.ins.toNat).map (fun k=>b / 2 ^ k % 2)).length=1+n.ins.toNat:=by simp;omega
      rw[e2]
      have e3:((stB n b n.ss.length).map (· % 2)).getD (k-(1+n.ins.toNat)) 0=(stB n b n.ss.length).getD (k-(1+n.ins.toNat)) 0 % 2:=by
        rw[List.getD_eq_getElem?_getD,List.getElem?_map,List.getD_eq_getElem?_getD]
        cases (stB n b n.ss.length)[k-(1+n.ins.toNat)]?<;>rfl
      rw[e3,xU n b (by omega),←hb,zA vs _ (n.ins.toNat+(k-(1+n.ins.toNat))) (by omega),show 1+(n.ins.toNat+(k-(1+n.ins.toNat)))=k by omega]
      omega
theorem Fq (bs:List Bl):naL (litsL bs bs.length) (litsL bs bs.length).length=bs:=by
  unfold naL litsL
  rw[List.take_length,List.take_length,List.map_map]
  refine(List.map_congr_left (fun b _=>?_)).trans (List.map_id _)
  cases b with
  | mk b=>cases b<;>rfl
theorem lits01 (bs:List Bl) (k:Nat):B01 (litsL bs k):=fun i hi=>by
  have hm:=bS (d:=(0:Int)) hi
  obtain⟨b, -,e⟩:=List.mem_map.1 hm
  rw[←e];split<;>omega
theorem xB {n:Nt}{l:Int}{rs:List CRow}{xs:List Int}(h:NcOk n l rs xs) {vs:List Int}(hc:cnfB (naL vs vs.length) rs=true) {c:List Int}(hm:c∈ncL n xs xs.length++[[lvI l]]):clB (naL vs vs.length) c=true:=by
  rw[wZ,h.rs] at hc
  exact List.all_eq_true.1 hc c hm
theorem Fy {n:Nt}(hn:NtOk n) {l:Int}{rs:List CRow}{xs vs:List Int}(h:NcOk n l rs xs) (hb:B01 vs) (hl:(vs.length:Int)=n.cnt) (hc:cnfB (naL vs vs.length) rs=true) {k:Int}(hk:k∈xs) (hf:n.fst≤k):vs.getD k.toNat 0=bitL vs (ndA n k)*bitL vs (ndB n k):=by
  obtain⟨r0,r1⟩:=h.cone.rng k hk
  have hand:isAndB n k=true:=gX.2 ⟨hf,r1⟩
  obtain⟨o1,o2,o3,o4,o5,o6⟩:=kI hn hf r1
  have ha:=kW hb o3 (by omega)
  have hbb:=kW hb o5 (by omega)
  have hkk:=pT hb (k:=k) (by omega) (by omega)
  have b1:=jA hb o3 (show ndA n k<2*vs.length by omega)
  have b2:=jA hb o5 (show ndB n k<2*vs.length by omega)
  have b3:=hb k.toNat (by omega)
  have c1:=xB h hc (lY hk hand (c:=[-(k+1),lvI (ndA n k)]) (by simp[clK]))
  have c2:=xB h hc (lY hk hand (c:=[-(k+1),lvI (ndB n k)]) (by simp[clK]))
  have c3:=xB h hc (lY hk hand (c:=[k+1, -lvI (ndA n k), -lvI (ndB n k)]) (by simp[clK]))
  unfold clB at c1 c2 c3
  simp only[List.any_cons,List.any_nil,Bool.or_false] at c1 c2 c3
  rw[hkk.2,ha.1] at c1
  rw[hkk.2,hbb.1] at c2
  rw[hkk.1,ha.2,hbb.2] at c3
  rcases b1 with e1|e1<;>rcases b2 with e2|e2<;>rcases b3 with e3|e3<;>rw[e1] at c1 c3<;>rw[e2] at c2 c3<;>rw[e3] at c1 c2 c3<;>rw[e1,e2,e3]<;>first|rfl|(exfalso;revert c1 c2 c3;decide)
theorem Fa {n:Nt}(hn:NtOk n) {l:Int}{rs:List CRow}{xs vs:List Int}(h:NcOk n l rs xs) (h0:0≤l) (h1:l<2*n.cnt) (hb:B01 vs) (hl:(vs.length:Int)=n.cnt) (hc:cnfB (naL vs vs.length) rs=true):vs.getD 0 0=0∧bitL vs l=1:=by
  constructor
  · have c1 := xB h hc (c := [-1]) (List.mem_append.2 (.inl (List.mem_append.2 (.inl (List.mem_singleton.2 rfl)))))
    have hk:=(pT hb (k:=0) (by omega) (by omega)).2
    rw[show(-(0+1):Int) = -1 by decide] at hk
    unfold clB at c1
    simp only[List.any_cons,List.any_nil,Bool.or_false] at c1
    rw[hk] at c1
    have:=hb 0 (by omega)
    have hne:¬vs.getD 0 0=1:=by simpa using c1
    omega
  · have c1 := xB h hc (c := [lvI l]) (List.mem_append.2 (.inr (List.mem_singleton.2 rfl)))
    have hk:=(kW hb h0 (by omega)).1
    unfold clB at c1
    simp only[List.any_cons,List.any_nil,Bool.or_false] at c1
    rw[hk] at c1
    simpa using c1
theorem uV {n:Nt}(hn:NtOk n) {l:Int}{rs:List CRow}{xs vs v:List Int}(h:NcOk n l rs xs) (hb:B01 vs) (hl:(vs.length:Int)=n.cnt) (hc:cnfB (naL vs vs.length) rs=true) (hv:AndV n v) (hlf:∀k:Int,0≤k→k<n.fst→v.getD k.toNat 0=vs.getD k.toNat 0) :
    ∀(N:Nat) (k:Int),k.toNat<N→k∈xs→v.getD k.toNat 0=vs.getD k.toNat 0
  | 0,k,hk,_=>absurd hk (by omega)
  | N+1,k,hk,hx=>by
    obtain⟨r0,r1⟩:=h.cone.rng k hx
    by_cases hf:k<n.fst
    · exact hlf k r0 hf
    · obtain ⟨o1, o2, o3, o4, o5, o6⟩ := kI hn (k := k) (by omega) r1
      obtain⟨m1,m2⟩:=h.cone.clo k hx (by omega)
      have ia:=uV hn h hb hl hc hv hlf N (ndA n k / 2) (by omega) m1
      have ib:=uV hn h hb hl hc hv hlf N (ndB n k / 2) (by omega) m2
      have g:=Fy hn h hb hl hc hx (by omega)
      have hat:=hv.at_ (k-n.fst).toNat o1
      rw[show(n.fst+((k-n.fst).toNat:Nat)).toNat=k.toNat by omega] at hat
      have ea:bitL v (ndA n k)=bitL vs (ndA n k):=by unfold bitL;rw[ia]
      have eb:bitL v (ndB n k)=bitL vs (ndB n k):=by unfold bitL;rw[ib]
      have hat2:v.getD k.toNat 0=bitL v (ndA n k)*bitL v (ndB n k):=hat
      rw[hat2,g,ea,eb]
theorem Bc {n:Nt}(hn:NtOk n) {l:Int}{rs:List CRow}{xs:List Int}{bs:List Bl}(h:NcOk n l rs xs) (h0:0≤l) (h1:l<2*n.cnt) (hs:SRes n.cnt rs 1 bs) :
    ((litsL bs bs.length).length:Int)=n.cnt∧B01 (litsL bs bs.length)∧bitL (litsL bs bs.length) l=1∧bitL (valsL n (stB n (bvB (litsL bs bs.length) (n.ins.toNat+n.ss.length)) n.ss.length) (bvB (litsL bs bs.length) (n.ins.toNat+n.ss.length))) l=1:=by
  rcases hs with⟨-,hf,hsat⟩|⟨hc, -⟩
  · have hbl : (bs.length : Int) = n.cnt := by have := hf.1.1; simpa [fullL] using this
    have hl:((litsL bs bs.length).length:Int)=n.cnt:=by rw[Bj (Nat.le_refl _)];exact hbl
    have hb:=lits01 bs bs.length
    have hc:cnfB (naL (litsL bs bs.length) (litsL bs bs.length).length) rs=true:=by rw[Fq];exact(wQ hbl (h.cl hn h0 h1)).1 hsat
    obtain⟨z0,z1⟩:=Fa hn h h0 h1 hb hl hc
    refine⟨hl,hb,z1,?_⟩
    have hcnt:n.cnt=1+n.ins+n.ss.length+n.gs.length:=rfl
    have hfst:n.fst=1+n.ins+n.ss.length:=rfl
    have hi:=hn.i0
    have hv:=nI hn (hY n (bvB (litsL bs bs.length) (n.ins.toNat+n.ss.length)) n.ss.length) (bvB (litsL bs bs.length) (n.ins.toNat+n.ss.length))
    have he:=uV hn h hb hl hc hv (fun k k0 k1=>Fr hi hb (by omega) z0 (by omega)) ((l / 2).toNat+1) (l / 2) (by omega) h.cone.top
    rw[←z1];unfold bitL;rw[he]
  · exact absurd hc (by decide)
theorem vJ {n:Nt}(hn:NtOk n) {l:Int}{rs:List CRow}{xs:List Int}{bs:List Bl}(h:NcOk n l rs xs) (h0:0≤l) (h1:l<2*n.cnt) {cd:Int}(hs:SRes n.cnt rs cd bs) (hcd:cd≠1) (bits:Int):cd=2∧bitL (valsL n (stB n bits n.ss.length) bits) l=0:=by
  rcases hs with⟨hc, -⟩|⟨hc, -,hno⟩
  · exact absurd hc hcd
  · refine ⟨hc, ?_⟩
    have hi:=hn.i0
    have hv:=nI hn (hY n bits n.ss.length) bits
    have hz:(valsL n (stB n bits n.ss.length) bits).getD 0 0=0:=Ex _ _
    generalize valsL n (stB n bits n.ss.length) bits=v at hv hz ⊢
    have hvl:=hv.len
    rcases jA hv.b01 h0 (by omega) with e|e
    · exact e
    · exfalso
      have h9:=Fk hn hv hz h h0 h1
      rw[e,decide_eq_true rfl] at h9
      have hnl:((naL v v.length).length:Int)=n.cnt:=by rw[Fl (Nat.le_refl _)];exact hvl
      exact hno _ (Fz hnl) ((wQ hnl (h.cl hn h0 h1)).2 h9)
abbrev mtN (a:Nt) (r:List An×Int):Nt:=Nt.mk (a.ins+a.ss.length) (.slice none 0 0) (.slice none 0 0) (.slice none 0 0) [] r.1 [r.2]
theorem mtN_ok {a b:Nt}{r:List An×Int}(e:mtO a b=some r):NtOk (mtN a r)∧(0≤r.2∧r.2<2*(mtN a r).cnt)∧(mtN a r).fst=a.fst∧∀y,(bitL (valsL (mtN a r) [] y) r.2=1↔rtV a y≠rtV b y):=by
  obtain⟨c,e2⟩:=vX e
  obtain⟨h1,h2,h3⟩:=Do c e2
  have hc:(mtN a r).cnt=(mt0 a).fst+r.1.length:=by rw[gI];rfl
  refine⟨⟨h1.i0,h1.i1,h1.s1,h1.a1,by show 1≤16;decide,h1.sq,h1.xs,h1.an,fun x hx=>?_⟩,by rw[hc];exact h2,fT a,h3⟩
  rw[List.mem_singleton] at hx
  subst hx
  show LtOk r.2 (mtN a r).cnt
  rw[hc];exact h2
structure Alk (m k:Nt):Prop where
  ins:m.ins=k.ins
  ss:m.ss=k.ss
  gs:m.gs=k.gs
  os:m.os=k.os
theorem Alk.ok {m k:Nt}(h:Alk m k) (hk:NtOk k):NtOk m:=by
  cases m;cases k
  obtain⟨h1,h2,h3,h4⟩:=h
  dsimp only at h1 h2 h3 h4
  subst h1 h2 h3 h4
  exact⟨hk.i0,hk.i1,hk.s1,hk.a1,hk.o1,hk.sq,hk.xs,hk.an,hk.ou⟩
theorem RcN.alk {m k:Nt}(h:Alk m k) {i j:Int}(hr:RcN m i j):RcN k i j:=by
  have ef:m.fst=k.fst:=by unfold Nt.fst;rw[h.ins,h.ss]
  have ec:m.cnt=k.cnt:=by rw[gI,gI,ef,h.gs]
  induction hr with
  | here k=>exact .here _
  | left h0 h1 _ ih=>
    refine .left (by rw[←ef];exact h0) (by rw[←ec];exact h1) ?_
    unfold ndA at ih ⊢
    rw[←ef,←h.gs];exact ih
  | right h0 h1 _ ih=>
    refine .right (by rw[←ef];exact h0) (by rw[←ec];exact h1) ?_
    unfold ndB at ih ⊢
    rw[←ef,←h.gs];exact ih
theorem Alk.symm {m k:Nt}(h:Alk m k):Alk k m:=⟨h.ins.symm,h.ss.symm,h.gs.symm,h.os.symm⟩
theorem NcOk.alk {m k:Nt}(h:Alk m k) {l:Int}{rs:List CRow}{xs:List Int}(hc:NcOk m l rs xs):NcOk k l rs xs:=by
  have h0:=h
  cases m;cases k
  obtain⟨h1,h2,h3,h4⟩:=h
  dsimp only at h1 h2 h3 h4
  subst h1 h2 h3 h4
  obtain⟨bs,e,hb⟩:=hc.cone.un
  exact⟨⟨hc.cone.len,hc.cone.rng,hc.cone.top,hc.cone.clo,bs,e,fun k k0 k1=>(hb k k0 k1).trans ⟨RcN.alk h0,RcN.alk h0.symm⟩⟩,hc.rs⟩
theorem NcOk.same {n:Nt}{l:Int}{rs qs:List CRow}{xs ys:List Int}(h:NcOk n l rs xs) (k:NcOk n l qs ys):qs.map CRow.xs=rs.map CRow.xs:=by rw[h.rs,k.rs,h.cone.same k.cone]
theorem PrfOk.alk {n:Int}{rs qs pr:List CRow}(h:PrfOk n rs pr) (e:qs.map CRow.xs=rs.map CRow.xs):PrfOk n qs pr:=⟨by have h1:=h.ok;show PrOk n (xsL qs) (xsL pr);rw[show xsL qs=xsL rs from e];exact h1,h.cl,h.last,h.len⟩
theorem MtIs.alk {a b m:Nt}{r:List An×Int}(e:mtO a b=some r) (h:MtIs a b m):Alk m (mtN a r):=by
  obtain⟨h1,h2,h3,h4⟩:=h r e
  exact⟨h1,h2,h3,h4⟩
structure MtNet (a b m:Nt) (r:List An×Int):Prop where
  ok:NtOk m
  lit:0≤m.os.getD 0 0∧m.os.getD 0 0<2*m.cnt
  fst:m.fst=a.fst
  ol:m.os.length=1
  ss:m.ss.length=0
  ins:m.ins=a.ins+a.ss.length
  val:∀y,(bitL (valsL m (stB m y m.ss.length) y) (m.os.getD 0 0)=1↔rtV a y≠rtV b y)
theorem MtIs.net {a b m:Nt}{r:List An×Int}(e:mtO a b=some r) (h:MtIs a b m):MtNet a b m r:=by
  have hk:=h.alk e
  obtain⟨n1,n2,n3,n4⟩:=mtN_ok e
  have hok:=hk.ok n1
  cases m
  obtain⟨h1,h2,h3,h4⟩:=hk
  dsimp only at h1 h2 h3 h4
  subst h1 h2 h3 h4
  exact⟨hok,n2,n3,rfl,rfl,rfl,n4⟩
def MtPrf (a:Nt) (r:List An×Int) (pr:List CRow):Prop:=∃(rs:List CRow) (xs:List Int),NcOk (mtN a r) r.2 rs xs∧PrfOk (mtN a r).cnt rs pr
theorem mt_prf {a b m:Nt}{r:List An×Int}(e:mtO a b=some r) (h:MtIs a b m) {rs pr:List CRow}{xs:List Int}(hc:NcOk m (m.os.getD 0 0) rs xs) (hp:PrfOk m.cnt rs pr):MtPrf a r pr:=by
  have hk:=h.alk e
  have e1:m.os.getD 0 0=r.2:=by rw[hk.os];rfl
  have e2:m.cnt=(mtN a r).cnt:=by rw[gI,gI,hk.gs];unfold Nt.fst;rw[hk.ins,hk.ss]
  rw[e1] at hc
  rw[e2] at hp
  exact⟨rs,xs,hc.alk hk,hp⟩
theorem MtPrf.at {a b m:Nt}{r:List An×Int}{pr:List CRow}(hp:MtPrf a r pr) (e:mtO a b=some r) (h:MtIs a b m) {rs:List CRow}{xs:List Int}(hc:NcOk m (m.os.getD 0 0) rs xs):PrfOk m.cnt rs pr:=by
  have hk:=h.alk e
  have e1:m.os.getD 0 0=r.2:=by rw[hk.os];rfl
  have e2:m.cnt=(mtN a r).cnt:=by rw[gI,gI,hk.gs];unfold Nt.fst;rw[hk.ins,hk.ss]
  rw[e1] at hc
  obtain⟨qs,ys,h1,h2⟩:=hp
  rw[e2]
  exact h2.alk (h1.same (hc.alk hk))
inductive CeqR (a b:Nt):Int→Int→List CRow→Prop
  | bad {y pr}:mtO a b=none→CeqR a b 0 y pr
  | yes {y pr r}:mtO a b=some r→(∀y,rtV a y=rtV b y)→MtPrf a r pr→CeqR a b 1 y pr
  | no {y pr r}:mtO a b=some r→rtV a y≠rtV b y→CeqR a b 2 y pr
theorem Gf {a b m:Nt}{r:List An×Int}(e:mtO a b=some r) (h:MtIs a b m) {rs pr:List CRow}{xs:List Int}{bs:List Bl}(hc:NcOk m (m.os.getD 0 0) rs xs) {cd:Int}(hs:SRes m.cnt rs cd bs) (h2:cd=2) (hp:PrfOk m.cnt rs pr) {y:Int}:CeqR a b 1 y pr:=by
  have hn:=h.net e
  refine .yes e (fun y=>Classical.byContradiction fun hne=>?_) (mt_prf e h hc hp)
  have h1:=(hn.val y).2 hne
  have h3:=(vJ hn.ok hc hn.lit.1 hn.lit.2 hs (by omega) y).2
  rw[h3] at h1;cases h1
theorem ceq_no {a b m:Nt}{r:List An×Int}(e:mtO a b=some r) (h:MtIs a b m) {rs pr:List CRow}{xs:List Int}{bs:List Bl}(hc:NcOk m (m.os.getD 0 0) rs xs) {cd:Int}(hs:SRes m.cnt rs cd bs) (h1:cd=1) {y:Int}(hy:y=bvB (litsL bs bs.length) m.ins.toNat):CeqR a b 2 y pr:=by
  subst h1
  have hn:=h.net e
  have h2:=(Bc hn.ok hc hn.lit.1 hn.lit.2 hs).2.2.2
  rw[hn.ss,Nat.add_zero,←hy] at h2
  have h3:=hn.val y
  rw[hn.ss] at h3
  exact .no e (h3.1 h2)
theorem De {a i:Nat}(h:a<2 ^ i) (hi:i<16):bits .or .i64 (a:Int) ((2:Int) ^ i)=((a+2 ^ i:Nat):Int):=by
  have hp:2 ^ i<2 ^ 16:=Nat.pow_lt_pow_right (by decide) hi
  have e:(2:Int) ^ i=((2 ^ i:Nat):Int):=by simp
  have h1:(2:Nat) ^ 16=65536:=by decide
  rw[e,Bit.or_nat _ _ (by omega) (by omega)]
  have:=Bit.or_join a 1 i h
  rw[Nat.one_mul] at this
  rw[this]
theorem or_bv {q:Int}{k:Nat}(h:0≤q∧q<2 ^ k) (hk:k<16):bits .or .i64 q (1*2 ^ k)=q+1*2 ^ k:=by
  have e:(2:Int) ^ k=((2 ^ k:Nat):Int):=by simp
  have h1:=De (a:=q.toNat) (i:=k) (by have:=h.2;rw[e] at this;omega) hk
  rw[Int.toNat_of_nonneg h.1] at h1
  rw[Int.one_mul,h1,e]
  push_cast
  rw[Int.toNat_of_nonneg h.1]
theorem bv_yes {bs:List Bl}{k:Nat}(h:1+k<bs.length) (hb:(bs.getD (1+k) bl0).b=true):bvB (litsL bs bs.length) k+1*2 ^ k=bvB (litsL bs bs.length) (k+1):=by
  have e:(litsL bs bs.length).getD (1+k) 0=1:=by simp only[litsL,List.take_length];rw[List.getD_eq_getElem?_getD,List.getElem?_map,List.getElem?_eq_getElem h];rw[List.getD_eq_getElem?_getD,List.getElem?_eq_getElem h] at hb;simp at hb ⊢;exact hb
  show _=bvB (litsL bs bs.length) k+(litsL bs bs.length).getD (1+k) 0 % 2*2 ^ k
  rw[e];rfl
theorem bv_no {bs:List Bl}{k:Nat}(h:1+k<bs.length) (hb:(bs.getD (1+k) bl0).b=false):bvB (litsL bs bs.length) k=bvB (litsL bs bs.length) (k+1):=by
  have e:(litsL bs bs.length).getD (1+k) 0=0:=by simp only[litsL,List.take_length];rw[List.getD_eq_getElem?_getD,List.getElem?_map,List.getElem?_eq_getElem h];rw[List.getD_eq_getElem?_getD,List.getElem?_eq_getElem h] at hb;simp at hb ⊢;exact hb
  show _=bvB (litsL bs bs.length) k+(litsL bs bs.length).getD (1+k) 0 % 2*2 ^ k
  rw[e,Int.zero_emod,Int.zero_mul,Int.add_zero]
theorem qJ (n:Nt) (y:Int):rvL n y (rtsL n n.ss.length).length=rtV n y:=by unfold rvL rtV;rw[List.take_length]
theorem Bb {n:Int}{rs:List CRow}{cd:Int}{bs:List Bl}(h:SRes n rs cd bs):(cd=1∧(bs.length:Int)=n)∨cd=2:=by
  rcases h with⟨h1,h2, -⟩|⟨h1, -⟩
  · exact .inl ⟨h1,by have:=h2.1.1;simpa [fullL] using this⟩
  · exact .inr h1
structure Srch (c:Nat) (back queue:List Int):Prop where
  len:back.length=c
  rng:∀x∈queue,0≤x∧x<c
  nodup:queue.Nodup
  set:∀x∈queue,back.getD x.toNat 0≠-2
  prec:∀j,j<c→back.getD j 0 = -2∨((j:Int)∈queue∧(back.getD j 0 = -1∨(back.getD j 0∈queue∧queue.idxOf (back.getD j 0)<queue.idxOf (j:Int))))
theorem Br {α:Type}{d x:α}{n i:Nat}(h:i<n):(List.replicate n x).getD i d=x:=by
  rw[List.getD_eq_getElem?_getD,List.getElem?_replicate,if_pos h];rfl
structure BackOk (c:Nat) (back:List Int):Prop where
  len:back.length=c
  rng:∀j,j<c→-2≤back.getD j 0∧back.getD j 0<c
  rank:∃r:Nat→Nat,∀j,j<c→0≤back.getD j 0→r (back.getD j 0).toNat<r j
def NxOk (c:Nat) (xs:List Int):Prop:=∀x∈xs,0≤x∧x<c
def AbOk (c:Int) (ab:List Int):Prop:=(ab.length:Int)=c∧∀k,k<ab.length→-1≤ab.getD k 0∧ab.getD k 0<c
structure LbOk (n:Nt) (i:Nat) (ls:List Int):Prop where
  len:(ls.length:Int)=n.cnt
  at_:∀k,k<ls.length→0≤ls.getD k 0∧ls.getD k 0≤k
open Go.RowKit
open Go.RowKit
def tFstH (v:Value):Value:=match v with | .tuple #[x,_]=>x|_=>undef
def tSndB (v:Value):Bool:=match v with | .tuple #[_,.bool b]=>b|_=>false
noncomputable def pBe (p:Prop):Bool:=@decide p (Classical.propDecidable p)
theorem nQ {p:Prop}(h:p):pBe p=true:=@decide_eq_true p (Classical.propDecidable p) h
theorem kT {p:Prop}(h:¬p):pBe p=false:=@decide_eq_false p (Classical.propDecidable p) h
theorem of_pBe {p:Prop}(h:pBe p=true):p:=@of_decide_eq_true p (Classical.propDecidable p) h
def StrictE (xs:List Int):Prop:=∀i,i<xs.length→0≤xs.getD i 0∧(0<i→xs.getD (i-1) 0<xs.getD i 0)
theorem sG {xs:List Int}{j:Nat}(hj:j<xs.length) (hb:xs.getD j 0<0∨(0<j∧xs.getD j 0≤xs.getD ((j:Int)-1).toNat 0)):¬StrictE xs:=fun h=>by
  have h1:=h j hj
  rcases hb with hb|⟨h0,hb⟩
  · omega
  · have h2 := h1.2 h0
    rw[show((j:Int)-1).toNat=j-1 by omega] at hb
    omega
theorem pC {xs:List Int}{j:Nat}(h:∀i,i<j→0≤xs.getD i 0∧(0<i→xs.getD (i-1) 0<xs.getD i 0)) (h0:0≤xs.getD j 0) (h1:(j:Int)≤0∨xs.getD ((j:Int)-1).toNat 0<xs.getD j 0):∀i,i<j+1→0≤xs.getD i 0∧(0<i→xs.getD (i-1) 0<xs.getD i 0):=fun i hi=>by
  by_cases e:i=j
  · subst e
    refine⟨h0,fun hp=>?_⟩
    rcases h1 with h1|h1
    · omega
    · rwa [show((i:Int)-1).toNat=i-1 by omega] at h1
  · exact h i (by omega)
def CLessE (a b:List Int):Prop:=a.length<b.length∨a.length=b.length∧∃i,i<a.length∧(∀j,j<i→a.getD j 0=b.getD j 0)∧a.getD i 0<b.getD i 0
theorem jU {a b:List Int}(h:a.length≠b.length):pBe (CLessE a b)=decide ((a.length:Int)<b.length):=by
  by_cases c:a.length<b.length
  · rw[nQ (.inl c),decide_eq_true (by omega)]
  · rw[kT (by rintro (h1|h1)<;>omega),decide_eq_false (by omega)]
theorem kL {a b:List Int}{i:Nat}(h:a.length=b.length) (hi:i<a.length) (hj:∀j,j<i→a.getD j 0=b.getD j 0) (hne:a.getD i 0≠b.getD i 0):pBe (CLessE a b)=decide (a.getD i 0<b.getD i 0):=by
  by_cases c:a.getD i 0<b.getD i 0
  · rw[nQ (.inr ⟨h,i,hi,hj,c⟩),decide_eq_true c]
  · rw [decide_eq_false c, kT]
    rintro (h1|⟨-,k,hk,h1,h2⟩)
    · omega
    · rcases Nat.lt_trichotomy k i with e | e | e
      · have:=hj k e;omega
      · subst e;exact c h2
      · exact hne (h1 i e)
theorem kK {a b:List Int}(h:a.length=b.length) (hj:∀j,j<a.length→a.getD j 0=b.getD j 0):pBe (CLessE a b)=false:=kT (by
  rintro (h1|⟨-,k,hk,h1,h2⟩)
  · omega
  · have:=hj k hk;omega)
theorem mH {rs qs:List CRow}{u e:CRow}(h:∀q∈qs,q=u∨q∈rs) (he:e=u∨e∈rs):∀q∈qs++[e],q=u∨q∈rs:=fun q hq=>by
  rcases List.mem_append.1 hq with hq|hq
  · exact h q hq
  · rw[List.mem_singleton] at hq;subst hq;exact he
theorem Bu {rs qs:List CRow}{u:CRow}(h:∀r∈rs,r.xs.length≤4) (hu:u.xs.length≤4) (hq:∀q∈qs,q=u∨q∈rs):∀q∈qs,q.xs.length≤4:=fun q hm=>by
  rcases hq q hm with rfl|e
  · exact hu
  · exact h q e
theorem sQ {i j b n:Nat}(h:n≤i*b+j) (hi:i≤8) (hj:j≤8) (hb:b≤8):n≤72:=by
  have:i*b≤8*8:=Nat.mul_le_mul hi hb
  omega
structure CGrp where
  v:Value
  rs:List CRow
abbrev cgrp0:CGrp:=⟨.slice none 0 0,[]⟩
def cgC (c:CGrp):List Value:=[c.v]
def RdsGrps (w:World) (cs:List CGrp):Prop:=∀c∈cs,RdsCl w c.v c.rs
theorem RdsGrps.at {w:World}{cs:List CGrp}(h:RdsGrps w cs) {k:Nat}(hk:k<cs.length):RdsCl w (cs.getD k cgrp0).v (cs.getD k cgrp0).rs:=h _ (dO hk)
theorem RdsGrps.app {w:World}{cs:List CGrp}(h:RdsGrps w cs) {e:CGrp}(he:RdsCl w e.v e.rs):RdsGrps w (cs++[e]):=fun c hc=>by
  rcases List.mem_append.1 hc with hc|hc
  · exact h c hc
  · rw[List.mem_singleton] at hc;subst hc;exact he
structure GrpOk (rs:List CRow):Prop where
  pos:1≤rs.length
  len:rs.length≤8
  four:∀r∈rs,r.xs.length≤4
def GrpsOk (cs:List CGrp):Prop:=∀c∈cs,GrpOk c.rs
theorem GrpsOk.at {cs:List CGrp}(h:GrpsOk cs) {k:Nat}(hk:k<cs.length):GrpOk (cs.getD k cgrp0).rs:=h _ (dO hk)
theorem GrpsOk.app {cs:List CGrp}(h:GrpsOk cs) {e:CGrp}(he:GrpOk e.rs):GrpsOk (cs++[e]):=fun c hc=>by
  rcases List.mem_append.1 hc with hc|hc
  · exact h c hc
  · rw[List.mem_singleton] at hc;subst hc;exact he
theorem GrpOk.one {v:Value}{xs:List Int}(h:xs.length≤4):GrpOk [CRow.mk v xs]:=⟨by simp,by simp,fun r hr=>by rw[List.mem_singleton] at hr;subst hr;exact h⟩
theorem GrpOk.more {us:List CRow}{v:Value}{x:Int}(h:us.length≤7) (h4:∀r∈us,r.xs.length≤4):GrpOk (us++[CRow.mk v [x]]):=⟨by simp,by simp;omega,fun r hr=>by
  rcases List.mem_append.1 hr with hr|hr
  · exact h4 r hr
  · rw[List.mem_singleton] at hr;subst hr;simp⟩
theorem oT {xs:List Int}{x:Int}:hasB xs x=true↔x∈xs:=by unfold hasB;exact List.contains_iff_mem
theorem wP {xs:List Int}{x:Int}{j:Nat}(hj:j<xs.length) (h:xs.getD j 0=x):hasB xs x=true:=oT.2 (by rw[←h];exact bS hj)
theorem Dx {xs:List Int}{x:Int}(h:∀i,i<xs.length→xs.getD i 0≠x):hasB xs x=false:=by
  cases hb:hasB xs x with
  | false=>rfl
  | true=>
    obtain⟨i,hi,e⟩:=List.mem_iff_getElem.1 (oT.1 hb)
    have:=h i hi
    rw[List.getD_eq_getElem?_getD,List.getElem?_eq_getElem hi] at this
    exact absurd e this
theorem iE (xs:List Int) (x:Int) (v:Value) (w:World) (hv:RdsW w v 1 xs.length (xs.map (Value.int .i64))) (hlen:xs.length≤1000000000) :
   Calls Tryz.prog 91 #[v,.int .i64 x] w (Ans w (.bool (hasB xs x))):=by
 refine bN (N:=18) (args:=[v,jI x]) Tryz.func91 A A (bD 1 A (aC (bD 1 A ?_)))
 refine bE ?_
 refine hO (α:=Nat) [0,1,4] A (fun j=>[]) (fun j=>[(5,jI (j:Int))]) (fun j=>j≤xs.length∧∀i,i<j→xs.getD i 0≠x) (fun j=>xs.length-j) 0 ⟨by omega,fun i hi=>absurd hi (by omega)⟩ (cT A) (.slnil) ?_
 intro j hi1
 obtain⟨hk1,hk2⟩:=hi1
 refine aC (aC (bZ 2 A (aP A (bC A Tryz.underlying26 A (aE hv)) ?_)))
 refine bQ A A A A A A (fun h2=>?_) (fun h2=>?_)
 refine bR (aR A (bY (fM (aC (bZ 2 A (aP A (dF 1 A A A A (aE hv)) (aP A (hC A A A (aE hv)) (aM 1 A ?_))))))))
 refine cM A A A A A A (fun h3=>?_) (fun h3=>?_)
 refine bR (aR A (bD 1 A ?_))
 refine aV (aQ ?_)
 refine fL ?_
 refine aQ (aL ?_)
 exact cA A A (congrArg _ (wP (j:=j) (by omega) (by assumption)).symm)
 refine bR (hH A (cK (bZ 1 A (aP A (dM A A A) (dJ 1 A ?_)))))
 exact cU (j+1) ⟨by omega,fun i hi=>by by_cases hij:i=j;(subst hij;assumption);exact hk2 i (by omega)⟩ (by omega) (cT A) (.slnil)
 refine bR (aS A ?_)
 refine bM (dI ?_)
 refine aO (bF (bD 1 A ?_))
 exact aV (cA A A (congrArg _ (Dx (fun i hi=>hk2 i (by omega))).symm))
theorem mO (xs:List Int) (v:Value) (w:World) (hv:RdsW w v 1 xs.length (xs.map (Value.int .i64))) (hlen:xs.length≤1000000) :
   Calls Tryz.prog 113 #[v] w (Ans w (.bool (pBe (StrictE xs)))):=by
 refine bN (N:=31) (args:=[v]) Tryz.func113 A A (bD 1 A (aC (bD 1 A ?_)))
 refine bE ?_
 refine hO (α:=Nat) [0,2] A (fun j=>[]) (fun j=>[(3,jI (j:Int))]) (fun j=>j≤xs.length∧∀i,i<j→0≤xs.getD i 0∧(0<i→xs.getD (i-1) 0<xs.getD i 0)) (fun j=>xs.length-j) 0 ⟨by omega,fun i hi=>absurd hi (by omega)⟩ (cT A) (.slnil) ?_
 intro j hi1
 obtain⟨hk1,hk2⟩:=hi1
 refine aC (aC (bZ 2 A (aP A (bC A Tryz.underlying26 A (aE hv)) ?_)))
 refine bQ A A A A A A (fun h2=>?_) (fun h2=>?_)
 refine bR (aR A (bY (fM (aC ?_))))
 rcases Bool.eq_false_or_eq_true (decide (xs.getD j 0<0)) with hb3|hb3
 have hb3p:xs.getD j 0<0:=of_decide_eq_true hb3
 refine cJ 21 [[],[],[0,1],[2],[3],[4],[5],[5],[5],[8],[8],[8],[8],[8],[8],[8],[8],[8],[8],[5],[5,19]] [10,11,12,13,14,15,16,17,18,19,20,21,22,23,24,25,26,27,28,29,30] [v,jI (j:Int),elP v ((j:Int).toNat*1),jI (xs.getD j 0),.bool true,.bool true,undef,undef,undef,undef,undef,undef,undef,undef,undef,undef,undef,undef,undef,undef,.bool true] (by kernel_rfl) A ?_ ?_
 exact⟨bK A (aK A) A,bK A (aK A) A,bK A (dF 1 A A A A (aE hv)) A,bK A (hC A A A (aE hv)) A,.inl ⟨A,eQ (dC A A A A) hb3⟩,bK A (aK A) A,.inr ⟨A,A⟩,.inr ⟨A,A⟩,.inr ⟨A,A⟩,.inr ⟨A,A⟩,.inr ⟨A,A⟩,.inr ⟨A,A⟩,.inr ⟨A,A⟩,.inr ⟨A,A⟩,.inr ⟨A,A⟩,.inr ⟨A,A⟩,.inr ⟨A,A⟩,.inr ⟨A,A⟩,.inr ⟨A,A⟩,.inr ⟨A,A⟩,bK A (aK A) A,trivial⟩
 simp only[List.drop_succ_cons,List.drop_zero]
 refine bR (aR A (bD 1 A ?_))
 refine aV (aQ ?_)
 refine fL ?_
 refine aQ (aL ?_)
 exact cA A A (congrArg _ (kT (sG (j:=j) (by omega) (by first|exact .inl (by omega)|exact .inr ⟨by omega,by omega⟩))).symm)
 have hb3p:¬(xs.getD j 0<0):=of_decide_eq_false hb3
 rcases Bool.eq_false_or_eq_true (decide (0<(j:Int))) with hb4|hb4
 have hb4p:0<(j:Int):=of_decide_eq_true hb4
 refine cJ 21 [[],[],[0,1],[2],[3],[4],[5],[5,6],[5,7],[8],[8],[8,9,10],[8,11],[8],[8],[8,14],[8,13,15],[8,16],[8,12,17],[5,8,18],[5,19]] [10,11,12,13,14,15,16,17,18,19,20,21,22,23,24,25,26,27,28,29,30] [v,jI (j:Int),elP v ((j:Int).toNat*1),jI (xs.getD j 0),.bool false,.bool false,jI (j:Int),.bool true,.bool true,v,jI (j:Int),elP v ((j:Int).toNat*1),jI (xs.getD j 0),v,jI (j:Int),jI ((j:Int)-1),elP v (((j:Int)-1).toNat*1),jI (xs.getD (((j:Int)-1).toNat) 0),.bool (decide (xs.getD j 0≤xs.getD (((j:Int)-1).toNat) 0)),.bool (decide (xs.getD j 0≤xs.getD (((j:Int)-1).toNat) 0)),.bool (decide (xs.getD j 0≤xs.getD (((j:Int)-1).toNat) 0))] (by kernel_rfl) A ?_ ?_
 exact⟨bK A (aK A) A,bK A (aK A) A,bK A (dF 1 A A A A (aE hv)) A,bK A (hC A A A (aE hv)) A,.inl ⟨A,eQ (dC A A A A) hb3⟩,bK A (aK A) A,bK A (aK A) A,.inl ⟨A,eQ (dC A A A A) hb4⟩,bK A (aK A) A,bK A (aK A) A,bK A (aK A) A,bK A (dF 1 A A A A (aE hv)) A,bK A (hC A A A (aE hv)) A,bK A (aK A) A,bK A (aK A) A,bK A (iM A A A) A,bK A (dF 1 A A A A (aE hv)) A,bK A (rR A A A (aE hv)) A,bK A (dC A A A A) A,bK A (aK A) A,bK A (aK A) A,trivial⟩
 simp only[List.drop_succ_cons,List.drop_zero]
 refine bR ?_
 refine fU A (fun h5=>?_) (fun h5=>?_)
 have h5p:xs.getD j 0≤xs.getD (((j:Int)-1).toNat) 0:=of_decide_eq_true h5
 refine bD 1 A ?_
 refine aV (aQ ?_)
 refine fL ?_
 refine aQ (aL ?_)
 exact cA A A (congrArg _ (kT (sG (j:=j) (by omega) (by first|exact .inl (by omega)|exact .inr ⟨by omega,by omega⟩))).symm)
 have h5p:¬(xs.getD j 0≤xs.getD (((j:Int)-1).toNat) 0):=of_decide_eq_false h5
 refine fP (cK (bZ 1 A (aP A (dM A A A) (dJ 1 A ?_))))
 exact cU (j+1) ⟨by omega,pC hk2 (by omega) (by first|exact .inl (by omega)|exact .inr (by omega))⟩ (by omega) (cT A) (.slnil)
 have hb4p:¬(0<(j:Int)):=of_decide_eq_false hb4
 refine cJ 21 [[],[],[0,1],[2],[3],[4],[5],[5,6],[5,7],[8],[8],[8],[8],[8],[8],[8],[8],[8],[8],[5,8,18],[5,19]] [10,11,12,13,14,15,16,17,18,19,20,21,22,23,24,25,26,27,28,29,30] [v,jI (j:Int),elP v ((j:Int).toNat*1),jI (xs.getD j 0),.bool false,.bool false,jI (j:Int),.bool false,.bool false,undef,undef,undef,undef,undef,undef,undef,undef,undef,undef,.bool false,.bool false] (by kernel_rfl) A ?_ ?_
 exact⟨bK A (aK A) A,bK A (aK A) A,bK A (dF 1 A A A A (aE hv)) A,bK A (hC A A A (aE hv)) A,.inl ⟨A,eQ (dC A A A A) hb3⟩,bK A (aK A) A,bK A (aK A) A,.inl ⟨A,eQ (dC A A A A) hb4⟩,bK A (aK A) A,.inr ⟨A,A⟩,.inr ⟨A,A⟩,.inr ⟨A,A⟩,.inr ⟨A,A⟩,.inr ⟨A,A⟩,.inr ⟨A,A⟩,.inr ⟨A,A⟩,.inr ⟨A,A⟩,.inr ⟨A,A⟩,.inr ⟨A,A⟩,bK A (aK A) A,bK A (aK A) A,trivial⟩
 simp only[List.drop_succ_cons,List.drop_zero]
 refine bR (hH A (cK (bZ 1 A (aP A (dM A A A) (dJ 1 A ?_)))))
 exact cU (j+1) ⟨by omega,pC hk2 (by omega) (by first|exact .inl (by omega)|exact .inr (by omega))⟩ (by omega) (cT A) (.slnil)
 refine bR (aS A ?_)
 refine bM (dI ?_)
 refine aO (bF (bD 1 A ?_))
 exact aV (cA A A (congrArg _ (nQ (fun i hi=>hk2 i (by omega))).symm))
theorem oG (xs ys:List Int) (u v:Value) (w:World) (hu:RdsW w u 1 xs.length (xs.map (Value.int .i64))) (hv:RdsW w v 1 ys.length (ys.map (Value.int .i64))) (hlen:xs.length≤1000000) :
   Calls Tryz.prog 114 #[u,v] w (Ans w (.bool (pBe (CLessE xs ys)))):=by
 refine bN (N:=40) (args:=[u,v]) Tryz.func114 A A (bD 1 A (aC (aC (bZ 1 A (aP A (bC A Tryz.underlying26 A (aE hu)) (aM 1 A (aP A (bC A Tryz.underlying26 A (aE hv)) ?_)))))))
 refine hQ A A A A A A (fun h1=>?_) (fun h1=>?_)
 refine bR (aR A (aC (bZ 1 A (aP A (bC A Tryz.underlying26 A (aE hu)) (aM 1 A (aP A (bC A Tryz.underlying26 A (aE hv)) ?_))))))
 refine bQ A A A A A A (fun h2=>?_) (fun h2=>?_)
 refine aU 1 A ?_
 refine aV (aL ?_)
 exact cA A A (congrArg Value.bool (by first|exact(kK (by omega) (fun j2 hj2=>hk2 j2 (by omega))).symm|(rw[jU (by omega)];first|exact(decide_eq_true (by omega)).symm|exact(decide_eq_false (by omega)).symm)|(rw[kL (i:=j) (by omega) (by omega) hk2 (by omega)];first|exact(decide_eq_true (by omega)).symm|exact(decide_eq_false (by omega)).symm)))
 refine aU 1 A ?_
 refine aV (aL ?_)
 exact cA A A (congrArg Value.bool (by first|exact(kK (by omega) (fun j2 hj2=>hk2 j2 (by omega))).symm|(rw[jU (by omega)];first|exact(decide_eq_true (by omega)).symm|exact(decide_eq_false (by omega)).symm)|(rw[kL (i:=j) (by omega) (by omega) hk2 (by omega)];first|exact(decide_eq_true (by omega)).symm|exact(decide_eq_false (by omega)).symm)))
 refine bR (aS A (bY (aC (bD 1 A (bE ?_)))))
 refine hO (α:=Nat) [0,1,4,10] A (fun j=>[]) (fun j=>[(5,jI (j:Int))]) (fun j=>j≤xs.length∧∀i,i<j→xs.getD i 0=ys.getD i 0) (fun j=>xs.length-j) 0 ⟨by omega,fun i hi=>absurd hi (by omega)⟩ (cT A) (.slnil) ?_
 intro j hi3
 obtain⟨hk1,hk2⟩:=hi3
 refine aC (aC (bZ 2 A (aP A (bC A Tryz.underlying26 A (aE hu)) ?_)))
 refine bQ A A A A A A (fun h4=>?_) (fun h4=>?_)
 refine bR (aR A (bY (fM (aC ?_))))
 refine cJ 9 [[],[],[0,1],[2],[],[],[4,5],[6],[3,7]] [22,23,24,25,26,27,28,29,30] [u,jI (j:Int),elP u ((j:Int).toNat*1),jI (xs.getD j 0),v,jI (j:Int),elP v ((j:Int).toNat*1),jI (ys.getD j 0),.bool ((xs.getD j 0) != (ys.getD j 0))] (by kernel_rfl) A ?_ ?_
 exact⟨bK A (aK A) A,bK A (aK A) A,bK A (dF 1 A A A A (aE hu)) A,bK A (hC A A A (aE hu)) A,bK A (aK A) A,bK A (aK A) A,bK A (dF 1 A A A A (aE hv)) A,bK A (hC A A A (aE hv)) A,bK A (dC A A A A) A,trivial⟩
 simp only[List.drop_succ_cons,List.drop_zero]
 refine bR ?_
 refine fU A (fun h5=>?_) (fun h5=>?_)
 have h5p:xs.getD j 0≠ys.getD j 0:=bne_iff_ne.1 h5
 refine aC ?_
 rcases Bool.eq_false_or_eq_true (decide (xs.getD j 0<ys.getD j 0)) with hb6|hb6
 have hb6p:xs.getD j 0<ys.getD j 0:=of_decide_eq_true hb6
 refine cJ 9 [[],[],[0,1],[2],[],[],[4,5],[6],[3,7]] [31,32,33,34,35,36,37,38,39] [u,jI (j:Int),elP u ((j:Int).toNat*1),jI (xs.getD j 0),v,jI (j:Int),elP v ((j:Int).toNat*1),jI (ys.getD j 0),.bool true] (by kernel_rfl) A ?_ ?_
 exact⟨bK A (aK A) A,bK A (aK A) A,bK A (dF 1 A A A A (aE hu)) A,bK A (hC A A A (aE hu)) A,bK A (aK A) A,bK A (aK A) A,bK A (dF 1 A A A A (aE hv)) A,bK A (hC A A A (aE hv)) A,.inl ⟨A,eQ (dC A A A A) hb6⟩,trivial⟩
 simp only[List.drop_succ_cons,List.drop_zero]
 refine aU 1 A ?_
 refine aV (aQ ?_)
 refine fL ?_
 refine aQ (aL ?_)
 exact cA A A (congrArg Value.bool (by first|exact(kK (by omega) (fun j2 hj2=>hk2 j2 (by omega))).symm|(rw[jU (by omega)];first|exact(decide_eq_true (by omega)).symm|exact(decide_eq_false (by omega)).symm)|(rw[kL (i:=j) (by omega) (by omega) hk2 (by omega)];first|exact(decide_eq_true (by omega)).symm|exact(decide_eq_false (by omega)).symm)))
 have hb6p:¬(xs.getD j 0<ys.getD j 0):=of_decide_eq_false hb6
 refine cJ 9 [[],[],[0,1],[2],[],[],[4,5],[6],[3,7]] [31,32,33,34,35,36,37,38,39] [u,jI (j:Int),elP u ((j:Int).toNat*1),jI (xs.getD j 0),v,jI (j:Int),elP v ((j:Int).toNat*1),jI (ys.getD j 0),.bool false] (by kernel_rfl) A ?_ ?_
 exact⟨bK A (aK A) A,bK A (aK A) A,bK A (dF 1 A A A A (aE hu)) A,bK A (hC A A A (aE hu)) A,bK A (aK A) A,bK A (aK A) A,bK A (dF 1 A A A A (aE hv)) A,bK A (hC A A A (aE hv)) A,.inl ⟨A,eQ (dC A A A A) hb6⟩,trivial⟩
 simp only[List.drop_succ_cons,List.drop_zero]
 refine aU 1 A ?_
 refine aV (aQ ?_)
 refine fL ?_
 refine aQ (aL ?_)
 exact cA A A (congrArg Value.bool (by first|exact(kK (by omega) (fun j2 hj2=>hk2 j2 (by omega))).symm|(rw[jU (by omega)];first|exact(decide_eq_true (by omega)).symm|exact(decide_eq_false (by omega)).symm)|(rw[kL (i:=j) (by omega) (by omega) hk2 (by omega)];first|exact(decide_eq_true (by omega)).symm|exact(decide_eq_false (by omega)).symm)))
 have h5p:xs.getD j 0=ys.getD j 0:=(bne_eq_false_iff_eq.1 h5)
 refine fP (cK (bZ 1 A (aP A (dM A A A) (dJ 1 A ?_))))
 exact cU (j+1) ⟨by omega,fun i hi=>by by_cases hij:i=j;(subst hij;assumption);exact hk2 i (by omega)⟩ (by omega) (cT A) (.slnil)
 refine bR (aS A ?_)
 refine bM (dI ?_)
 refine aO (bF (bD 1 A ?_))
 exact aV (cA A A (congrArg Value.bool (by first|exact(kK (by omega) (fun j2 hj2=>hk2 j2 (by omega))).symm|(rw[jU (by omega)];first|exact(decide_eq_true (by omega)).symm|exact(decide_eq_false (by omega)).symm)|(rw[kL (i:=j) (by omega) (by omega) hk2 (by omega)];first|exact(decide_eq_true (by omega)).symm|exact(decide_eq_false (by omega)).symm))))
theorem mN (xs ys:List Int) (u v:Value) (w:World) (hu:RdsW w u 1 xs.length (xs.map (Value.int .i64))) (hv:RdsW w v 1 ys.length (ys.map (Value.int .i64))) (hlen:xs.length≤1000000∧ys.length≤1000000) :
   Calls Tryz.prog 110 #[u,v] w (Ans w (.bool (xs.all (hasB ys)))):=by
 refine bN (N:=19) (args:=[u,v]) Tryz.func110 A A (bD 1 A (aC (bD 1 A ?_)))
 refine bE ?_
 refine hO (α:=Nat) [0,1,4] A (fun j=>[]) (fun j=>[(5,jI (j:Int))]) (fun j=>j≤xs.length∧∀i,i<j→hasB ys (xs.getD i 0)=true) (fun j=>xs.length-j) 0 ⟨by omega,fun i hi=>absurd hi (by omega)⟩ (cT A) (.slnil) ?_
 intro j hi1
 obtain⟨hk1,hk2⟩:=hi1
 refine aC (aC (bZ 2 A (aP A (bC A Tryz.underlying26 A (aE hu)) ?_)))
 refine bQ A A A A A A (fun h2=>?_) (fun h2=>?_)
 refine bR (aR A (bY (fM (aC (bZ 3 A (aP A (dF 1 A A A A (aE hu)) (aP A (hC A A A (aE hu)) ?_)))))))
 refine dA A (aJ A A (fun w hm=>aY (iE ys (xs.getD j 0) _ w ((aE hv) w hm) (by omega)))) (bW (fun h3=>?_) (fun h3=>?_))
 refine aU 1 A (hH A (cK (bZ 1 A (aP A (dM A A A) (dJ 1 A ?_)))))
 exact cU (j+1) ⟨by omega,fun i hi=>by by_cases hij:i=j;(subst hij;assumption);exact hk2 i (by omega)⟩ (by omega) (cT A) (.slnil)
 refine aU 1 A (aR A (bD 1 A ?_))
 refine aV (aQ ?_)
 refine fL ?_
 refine aQ (aL ?_)
 exact cA A A (congrArg _ (Bool.eq_false_iff.2 (fun h=>by have h2:=List.all_eq_true.1 h _ (dO (es:=xs) (i:=j) (d:=(0:Int)) (by omega));rw[show hasB ys (xs.getD j 0)=false by assumption] at h2;cases h2)).symm)
 refine bR (aS A ?_)
 refine bM (dI ?_)
 refine aO (bF (bD 1 A ?_))
 exact aV (cA A A (congrArg _ (List.all_eq_true.2 (fun x hx=>by obtain⟨i,hi,rfl⟩:=List.mem_iff_getElem.1 hx;have:=hk2 i (by omega);rwa [List.getD_eq_getElem?_getD,List.getElem?_eq_getElem hi] at this)).symm))
theorem zG (xs ys:List Int) (u v:Value) (w:World) (hu:RdsW w u 1 xs.length (xs.map (Value.int .i64))) (hv:RdsW w v 1 ys.length (ys.map (Value.int .i64))) (hxl:xs.length≤100000) (hyl:ys.length≤100000) :
   Calls Tryz.prog 108 #[u,v] w (Ret w (fun u_ p_=>∃(mv:Value) (us:List Int) (mb:Bool),u_=.tuple #[mv,.bool mb]∧p_=[rI9 3 mv us]∧us.length≤4)):=by
 refine bN (N:=101) (args:=[u,v]) Tryz.func108 A A (bD 2 A (cF ?_))
 refine dP A (dH (s:=1) A Tryz.underlying26 A) ?_
 intro g1
 refine aU 1 A (aC (aC (bZ 1 A ?_)))
 refine dA A (aJ A A (fun w hm=>aY (mO xs _ w ((aE hu) w hm) (by omega)))) (bW (fun h2=>?_) (fun h2=>?_))
 refine aM 3 A (dA A (aJ A A (fun w hm=>aY (mO ys _ w ((aE hv) w hm) (by omega)))) ?_)
 refine bW (fun h3=>?_) (fun h3=>?_)
 refine aU 2 A (aS A (bY (bD 1 A (aC ?_))))
 refine bJ (aU 1 A (fM ?_))
 refine oP (α:=Nat) (β:=Nat) (γ:=Value) (δ:=List Int) [0,1,4,5,17] A (fun i j gu os=>[rI9 3 gu os]) (fun i j gu os=>[(6,gu),(7,jI (i:Int)),(8,jI (j:Int))]) (fun i j gu os=>i≤xs.length∧j≤ys.length∧os.length≤4) (fun i j gu os=>xs.length-i+(ys.length-j)) 0 0 _ [] ⟨Nat.zero_le _,Nat.zero_le _,by simp⟩ (cT A) (dS A) ?_
 intro i j gu os hi4
 obtain⟨hi,hj,hol⟩:=hi4
 refine aC (aC (bZ 2 A (aP A (bC A Tryz.underlying26 A (aE hu)) ?_)))
 refine bQ A A A A A A (fun h5=>?_) (fun h5=>?_)
 refine aU 6 A (aR A (bY (bE (eP ?_))))
 refine aM 1 A (aP A (bC A Tryz.underlying26 A (aG 0 A)) ?_)
 refine cM A A A A A A (fun h6=>?_) (fun h6=>?_)
 refine bR (aR A (cF ?_))
 refine dP A (dH (s:=1) A Tryz.underlying26 A) ?_
 intro g7
 refine aU 2 A ?_
 refine aV (aL ?_)
 refine aQ (aL ?_)
 refine aQ (aL ?_)
 exact bV (rs:=[.tmp 4,.tmp 5]) (vs:=[.slice (some ⟨g7,0,none⟩) 0 0,.bool false]) (post:=[rowE 3 1 (.slice (some ⟨g7,0,none⟩) 0 0) 0 ([])]) A ⟨A,A,trivial⟩ A (eJ [0] A) ⟨_,[],false,A,A,by simp⟩
 refine bR (aS A (bY (bE ?_)))
 refine lQ (α:=Bool) (fun b4=>[rI9 3 gu os]) (fun b4=>[(0,u),(1,v),(4,.slice none 0 0),(5,.bool false),(6,gu),(7,jI (i:Int)),(8,jI (j:Int)),(17,.bool false),(28,.bool true),(31,.bool false),(44,.bool b4)]) (fun b4=>(b4=true→i<xs.length)∧(b4=false→j<ys.length)) ?_ ?_
 rcases Bool.eq_false_or_eq_true ((j:Int)==(ys.length:Int)) with hb8|hb8
 have hb8p:(j:Int)=(ys.length:Int):=beq_iff_eq.1 hb8
 refine cJ 21 [[],[],[1],[0,2],[3],[4],[4],[4],[4],[4],[9],[9],[9],[9],[9],[9],[9],[9],[9],[4],[4,19]] [45,46,47,48,49,50,51,52,53,54,55,56,57,58,59,60,61,62,63,64,65] [jI (j:Int),v,jI (ys.length:Int),.bool true,.bool true,undef,undef,undef,undef,undef,undef,undef,undef,undef,undef,undef,undef,undef,undef,undef,.bool true] (by kernel_rfl) A ?_ ?_
 exact⟨bK A (aK A) A,bK A (aK A) A,bK A (bC A Tryz.underlying26 A (aE hv)) A,.inl ⟨A,eQ (dC A A A A) hb8⟩,bK A (aK A) A,.inr ⟨A,A⟩,.inr ⟨A,A⟩,.inr ⟨A,A⟩,.inr ⟨A,A⟩,.inr ⟨A,A⟩,.inr ⟨A,A⟩,.inr ⟨A,A⟩,.inr ⟨A,A⟩,.inr ⟨A,A⟩,.inr ⟨A,A⟩,.inr ⟨A,A⟩,.inr ⟨A,A⟩,.inr ⟨A,A⟩,.inr ⟨A,A⟩,.inr ⟨A,A⟩,bK A (aK A) A,trivial⟩
 simp only[List.drop_succ_cons,List.drop_zero]
 refine dJ 1 A ?_
 exact fR true ⟨fun _=>by first|omega|contradiction,fun _=>by first|omega|contradiction⟩ (cT A) (dS A)
 have hb8p:(j:Int)≠(ys.length:Int):=beq_eq_false_iff_ne.1 hb8
 rcases Bool.eq_false_or_eq_true (decide ((i:Int)<(xs.length:Int))) with hb9|hb9
 have hb9p:(i:Int)<(xs.length:Int):=of_decide_eq_true hb9
 rcases Bool.eq_false_or_eq_true (decide (xs.getD i 0<ys.getD j 0)) with hb10|hb10
 have hb10p:xs.getD i 0<ys.getD j 0:=of_decide_eq_true hb10
 refine cJ 21 [[],[],[1],[0,2],[3],[4],[4],[4,6],[4,5,7],[4,8],[9],[9],[9,10,11],[9,12],[9],[9],[9,14,15],[9,16],[9,13,17],[4,9,18],[4,19]] [45,46,47,48,49,50,51,52,53,54,55,56,57,58,59,60,61,62,63,64,65] [jI (j:Int),v,jI (ys.length:Int),.bool false,.bool false,jI (i:Int),u,jI (xs.length:Int),.bool true,.bool true,u,jI (i:Int),elP u ((i:Int).toNat*1),jI (xs.getD i 0),v,jI (j:Int),elP v ((j:Int).toNat*1),jI (ys.getD j 0),.bool true,.bool true,.bool true] (by kernel_rfl) A ?_ ?_
 exact⟨bK A (aK A) A,bK A (aK A) A,bK A (bC A Tryz.underlying26 A (aE hv)) A,.inl ⟨A,eQ (dC A A A A) hb8⟩,bK A (aK A) A,bK A (aK A) A,bK A (aK A) A,bK A (bC A Tryz.underlying26 A (aE hu)) A,.inl ⟨A,eQ (dC A A A A) hb9⟩,bK A (aK A) A,bK A (aK A) A,bK A (aK A) A,bK A (dF 1 A A A A (aE hu)) A,bK A (hC A A A (aE hu)) A,bK A (aK A) A,bK A (aK A) A,bK A (dF 1 A A A A (aE hv)) A,bK A (hC A A A (aE hv)) A,.inl ⟨A,eQ (dC A A A A) hb10⟩,bK A (aK A) A,bK A (aK A) A,trivial⟩
 simp only[List.drop_succ_cons,List.drop_zero]
 refine dJ 1 A ?_
 exact fR true ⟨fun _=>by first|omega|contradiction,fun _=>by first|omega|contradiction⟩ (cT A) (dS A)
 have hb10p:¬(xs.getD i 0<ys.getD j 0):=of_decide_eq_false hb10
 refine cJ 21 [[],[],[1],[0,2],[3],[4],[4],[4,6],[4,5,7],[4,8],[9],[9],[9,10,11],[9,12],[9],[9],[9,14,15],[9,16],[9,13,17],[4,9,18],[4,19]] [45,46,47,48,49,50,51,52,53,54,55,56,57,58,59,60,61,62,63,64,65] [jI (j:Int),v,jI (ys.length:Int),.bool false,.bool false,jI (i:Int),u,jI (xs.length:Int),.bool true,.bool true,u,jI (i:Int),elP u ((i:Int).toNat*1),jI (xs.getD i 0),v,jI (j:Int),elP v ((j:Int).toNat*1),jI (ys.getD j 0),.bool false,.bool false,.bool false] (by kernel_rfl) A ?_ ?_
 exact⟨bK A (aK A) A,bK A (aK A) A,bK A (bC A Tryz.underlying26 A (aE hv)) A,.inl ⟨A,eQ (dC A A A A) hb8⟩,bK A (aK A) A,bK A (aK A) A,bK A (aK A) A,bK A (bC A Tryz.underlying26 A (aE hu)) A,.inl ⟨A,eQ (dC A A A A) hb9⟩,bK A (aK A) A,bK A (aK A) A,bK A (aK A) A,bK A (dF 1 A A A A (aE hu)) A,bK A (hC A A A (aE hu)) A,bK A (aK A) A,bK A (aK A) A,bK A (dF 1 A A A A (aE hv)) A,bK A (hC A A A (aE hv)) A,.inl ⟨A,eQ (dC A A A A) hb10⟩,bK A (aK A) A,bK A (aK A) A,trivial⟩
 simp only[List.drop_succ_cons,List.drop_zero]
 refine dJ 1 A ?_
 exact fR false ⟨fun _=>by first|omega|contradiction,fun _=>by first|omega|contradiction⟩ (cT A) (dS A)
 have hb9p:¬((i:Int)<(xs.length:Int)):=of_decide_eq_false hb9
 refine cJ 21 [[],[],[1],[0,2],[3],[4],[4],[4,6],[4,5,7],[4,8],[9],[9],[9],[9],[9],[9],[9],[9],[9],[4,9,18],[4,19]] [45,46,47,48,49,50,51,52,53,54,55,56,57,58,59,60,61,62,63,64,65] [jI (j:Int),v,jI (ys.length:Int),.bool false,.bool false,jI (i:Int),u,jI (xs.length:Int),.bool false,.bool false,undef,undef,undef,undef,undef,undef,undef,undef,undef,.bool false,.bool false] (by kernel_rfl) A ?_ ?_
 exact⟨bK A (aK A) A,bK A (aK A) A,bK A (bC A Tryz.underlying26 A (aE hv)) A,.inl ⟨A,eQ (dC A A A A) hb8⟩,bK A (aK A) A,bK A (aK A) A,bK A (aK A) A,bK A (bC A Tryz.underlying26 A (aE hu)) A,.inl ⟨A,eQ (dC A A A A) hb9⟩,bK A (aK A) A,.inr ⟨A,A⟩,.inr ⟨A,A⟩,.inr ⟨A,A⟩,.inr ⟨A,A⟩,.inr ⟨A,A⟩,.inr ⟨A,A⟩,.inr ⟨A,A⟩,.inr ⟨A,A⟩,.inr ⟨A,A⟩,bK A (aK A) A,bK A (aK A) A,trivial⟩
 simp only[List.drop_succ_cons,List.drop_zero]
 refine dJ 1 A ?_
 exact fR false ⟨fun _=>by first|omega|contradiction,fun _=>by first|omega|contradiction⟩ (cT A) (dS A)
 intro b4 hm11
 obtain⟨hm4,hm5⟩:=hm11
 refine fU A (fun h12=>?_) (fun h12=>?_)
 refine aC (bZ 3 A ?_)
 have hlt4:=hm4 (by assumption)
 refine aP A (dF 1 A A A A (aE hu)) (aP A (hC A A A (aE hu)) ?_)
 refine dP A (bB (z:=jI 0) (s:=1) (cs:=(mI [xs.getD i 0])) A Tryz.underlying26 A (by decide) A (by kernel_rfl) A) ?_
 intro g13
 refine cW (i:=1) (z:=jI 0) (bytes:=8) A A A A Tryz.underlying26 (by kernel_rfl) A A A A (aG 0 A) (cO _) (by first|omega|(simp;done)|(simp;omega)) (cH os ([xs.getD i 0])) (dL os ([xs.getD i 0])) (fun _=>A) ?_
 intro v14
 refine aU 1 A (bZ 1 A (aP A (dM A A A) (dJ 1 A (cX (cX ?_)))))
 exact eD (i+1) j v14 (os++([xs.getD i 0])) ⟨by omega,by omega,by rw[List.length_append,List.length_singleton];omega⟩ (by omega) (cT rfl) (eJ [1] rfl)
 refine lQ (α:=Bool) (fun b7=>[rI9 3 gu os]) (fun b7=>[(0,u),(1,v),(4,.slice none 0 0),(5,.bool false),(6,gu),(7,jI (i:Int)),(8,jI (j:Int)),(17,.bool false),(28,.bool true),(31,.bool false),(44,.bool b4),(75,.bool b7)]) (fun b7=>(b7=false→i<xs.length)) ?_ ?_
 have hlt5:=hm5 (by assumption)
 rcases Bool.eq_false_or_eq_true ((i:Int)==(xs.length:Int)) with hb15|hb15
 have hb15p:(i:Int)=(xs.length:Int):=beq_iff_eq.1 hb15
 have hlt5:=hm5 (by assumption)
 refine cJ 15 [[],[],[1],[0,2],[3],[4],[4],[4],[4],[4],[4],[4],[4],[4],[4,13]] [76,77,78,79,80,81,82,83,84,85,86,87,88,89,90] [jI (i:Int),u,jI (xs.length:Int),.bool true,.bool true,undef,undef,undef,undef,undef,undef,undef,undef,undef,.bool true] (by kernel_rfl) A ?_ ?_
 exact⟨bK A (aK A) A,bK A (aK A) A,bK A (bC A Tryz.underlying26 A (aE hu)) A,.inl ⟨A,eQ (dC A A A A) hb15⟩,bK A (aK A) A,.inr ⟨A,A⟩,.inr ⟨A,A⟩,.inr ⟨A,A⟩,.inr ⟨A,A⟩,.inr ⟨A,A⟩,.inr ⟨A,A⟩,.inr ⟨A,A⟩,.inr ⟨A,A⟩,.inr ⟨A,A⟩,bK A (aK A) A,trivial⟩
 simp only[List.drop_succ_cons,List.drop_zero]
 refine dJ 1 A ?_
 exact fR true (fun _=>by first|omega|contradiction) (cT A) (dS A)
 have hb15p:(i:Int)≠(xs.length:Int):=beq_eq_false_iff_ne.1 hb15
 have hlt5:=hm5 (by assumption)
 rcases Bool.eq_false_or_eq_true (decide (ys.getD j 0<xs.getD i 0)) with hb16|hb16
 have hb16p:ys.getD j 0<xs.getD i 0:=of_decide_eq_true hb16
 have hlt5:=hm5 (by assumption)
 refine cJ 15 [[],[],[1],[0,2],[3],[4],[4],[4,5,6],[4,7],[4],[4],[4,9,10],[4,11],[4,8,12],[4,13]] [76,77,78,79,80,81,82,83,84,85,86,87,88,89,90] [jI (i:Int),u,jI (xs.length:Int),.bool false,.bool false,v,jI (j:Int),elP v ((j:Int).toNat*1),jI (ys.getD j 0),u,jI (i:Int),elP u ((i:Int).toNat*1),jI (xs.getD i 0),.bool true,.bool true] (by kernel_rfl) A ?_ ?_
 exact⟨bK A (aK A) A,bK A (aK A) A,bK A (bC A Tryz.underlying26 A (aE hu)) A,.inl ⟨A,eQ (dC A A A A) hb15⟩,bK A (aK A) A,bK A (aK A) A,bK A (aK A) A,bK A (dF 1 A A A A (aE hv)) A,bK A (hC A A A (aE hv)) A,bK A (aK A) A,bK A (aK A) A,bK A (dF 1 A A A A (aE hu)) A,bK A (hC A A A (aE hu)) A,.inl ⟨A,eQ (dC A A A A) hb16⟩,bK A (aK A) A,trivial⟩
 simp only[List.drop_succ_cons,List.drop_zero]
 refine dJ 1 A ?_
 exact fR true (fun _=>by first|omega|contradiction) (cT A) (dS A)
 have hb16p:¬(ys.getD j 0<xs.getD i 0):=of_decide_eq_false hb16
 have hlt5:=hm5 (by assumption)
 refine cJ 15 [[],[],[1],[0,2],[3],[4],[4],[4,5,6],[4,7],[4],[4],[4,9,10],[4,11],[4,8,12],[4,13]] [76,77,78,79,80,81,82,83,84,85,86,87,88,89,90] [jI (i:Int),u,jI (xs.length:Int),.bool false,.bool false,v,jI (j:Int),elP v ((j:Int).toNat*1),jI (ys.getD j 0),u,jI (i:Int),elP u ((i:Int).toNat*1),jI (xs.getD i 0),.bool false,.bool false] (by kernel_rfl) A ?_ ?_
 exact⟨bK A (aK A) A,bK A (aK A) A,bK A (bC A Tryz.underlying26 A (aE hu)) A,.inl ⟨A,eQ (dC A A A A) hb15⟩,bK A (aK A) A,bK A (aK A) A,bK A (aK A) A,bK A (dF 1 A A A A (aE hv)) A,bK A (hC A A A (aE hv)) A,bK A (aK A) A,bK A (aK A) A,bK A (dF 1 A A A A (aE hu)) A,bK A (hC A A A (aE hu)) A,.inl ⟨A,eQ (dC A A A A) hb16⟩,bK A (aK A) A,trivial⟩
 simp only[List.drop_succ_cons,List.drop_zero]
 refine dJ 1 A ?_
 exact fR false (fun _=>by first|omega|contradiction) (cT A) (dS A)
 intro b7 hm17
 have hm7:=hm17
 refine fU A (fun h18=>?_) (fun h18=>?_)
 refine aC (bZ 3 A ?_)
 have hlt6:=hm5 (by assumption)
 refine aP A (dF 1 A A A A (aE hv)) (aP A (hC A A A (aE hv)) ?_)
 refine dP A (bB (z:=jI 0) (s:=1) (cs:=(mI [ys.getD j 0])) A Tryz.underlying26 A (by decide) A (by kernel_rfl) A) ?_
 intro g19
 refine cW (i:=1) (z:=jI 0) (bytes:=8) A A A A Tryz.underlying26 (by kernel_rfl) A A A A (aG 0 A) (cO _) (by first|omega|(simp;done)|(simp;omega)) (cH os ([ys.getD j 0])) (dL os ([ys.getD j 0])) (fun _=>A) ?_
 intro v20
 refine aU 1 A (bZ 1 A (aP A (dM A A A) (dJ 1 A (cX (cX ?_)))))
 exact eD i (j+1) v20 (os++([ys.getD j 0])) ⟨by omega,by omega,by rw[List.length_append,List.length_singleton];omega⟩ (by omega) (cT rfl) (eJ [1] rfl)
 refine aC (bZ 3 A ?_)
 have hlt6:=hm5 (by assumption)
 have hlt7:=hm7 (by assumption)
 refine aP A (dF 1 A A A A (aE hu)) (aP A (hC A A A (aE hu)) ?_)
 refine dP A (bB (z:=jI 0) (s:=1) (cs:=(mI [xs.getD i 0])) A Tryz.underlying26 A (by decide) A (by kernel_rfl) A) ?_
 intro g21
 refine cW (i:=1) (z:=jI 0) (bytes:=8) A A A A Tryz.underlying26 (by kernel_rfl) A A A A (aG 0 A) (cO _) (by first|omega|(simp;done)|(simp;omega)) (cH os ([xs.getD i 0])) (dL os ([xs.getD i 0])) (fun _=>A) ?_
 intro v22
 refine aU 1 A (aC (bZ 1 A (aP A (dM A A A) (aU 1 A (bZ 1 A ?_)))))
 refine aP A (dM A A A) (dJ 1 A (cX (cX ?_)))
 exact eD (i+1) (j+1) v22 (os++([xs.getD i 0])) ⟨by omega,by omega,by rw[List.length_append,List.length_singleton];omega⟩ (by omega) (cT rfl) (eJ [1] rfl)
 refine aM 3 A (aP A (bC A Tryz.underlying26 A (aE hv)) ?_)
 refine bQ A A A A A A (fun h23=>?_) (fun h23=>?_)
 refine aU 1 A (aR A (bY (bE (aC (aC (bZ 1 A (aP A (bC A Tryz.underlying26 A (aG 0 A)) ?_)))))))
 refine cM A A A A A A (fun h24=>?_) (fun h24=>?_)
 refine bR (aR A (cF ?_))
 refine dP A (dH (s:=1) A Tryz.underlying26 A) ?_
 intro g25
 refine aU 2 A ?_
 refine aV (aL ?_)
 refine aQ (aL ?_)
 refine aQ (aL ?_)
 exact bV (rs:=[.tmp 4,.tmp 5]) (vs:=[.slice (some ⟨g25,0,none⟩) 0 0,.bool false]) (post:=[rowE 3 1 (.slice (some ⟨g25,0,none⟩) 0 0) 0 ([])]) A ⟨A,A,trivial⟩ A (eJ [0] A) ⟨_,[],false,A,A,by simp⟩
 refine bR (aS A (bY (bE ?_)))
 refine lQ (α:=Bool) (fun b4=>[rI9 3 gu os]) (fun b4=>[(0,u),(1,v),(4,.slice none 0 0),(5,.bool false),(6,gu),(7,jI (i:Int)),(8,jI (j:Int)),(17,.bool false),(28,.bool true),(31,.bool false),(44,.bool b4)]) (fun b4=>(b4=true→i<xs.length)∧(b4=false→j<ys.length)) ?_ ?_
 rcases Bool.eq_false_or_eq_true ((j:Int)==(ys.length:Int)) with hb26|hb26
 have hb26p:(j:Int)=(ys.length:Int):=beq_iff_eq.1 hb26
 refine cJ 21 [[],[],[1],[0,2],[3],[4],[4],[4],[4],[4],[9],[9],[9],[9],[9],[9],[9],[9],[9],[4],[4,19]] [45,46,47,48,49,50,51,52,53,54,55,56,57,58,59,60,61,62,63,64,65] [jI (j:Int),v,jI (ys.length:Int),.bool true,.bool true,undef,undef,undef,undef,undef,undef,undef,undef,undef,undef,undef,undef,undef,undef,undef,.bool true] (by kernel_rfl) A ?_ ?_
 exact⟨bK A (aK A) A,bK A (aK A) A,bK A (bC A Tryz.underlying26 A (aE hv)) A,.inl ⟨A,eQ (dC A A A A) hb26⟩,bK A (aK A) A,.inr ⟨A,A⟩,.inr ⟨A,A⟩,.inr ⟨A,A⟩,.inr ⟨A,A⟩,.inr ⟨A,A⟩,.inr ⟨A,A⟩,.inr ⟨A,A⟩,.inr ⟨A,A⟩,.inr ⟨A,A⟩,.inr ⟨A,A⟩,.inr ⟨A,A⟩,.inr ⟨A,A⟩,.inr ⟨A,A⟩,.inr ⟨A,A⟩,.inr ⟨A,A⟩,bK A (aK A) A,trivial⟩
 simp only[List.drop_succ_cons,List.drop_zero]
 refine dJ 1 A ?_
 exact fR true ⟨fun _=>by first|omega|contradiction,fun _=>by first|omega|contradiction⟩ (cT A) (dS A)
 have hb26p:(j:Int)≠(ys.length:Int):=beq_eq_false_iff_ne.1 hb26
 rcases Bool.eq_false_or_eq_true (decide ((i:Int)<(xs.length:Int))) with hb27|hb27
 have hb27p:(i:Int)<(xs.length:Int):=of_decide_eq_true hb27
 rcases Bool.eq_false_or_eq_true (decide (xs.getD i 0<ys.getD j 0)) with hb28|hb28
 have hb28p:xs.getD i 0<ys.getD j 0:=of_decide_eq_true hb28
 refine cJ 21 [[],[],[1],[0,2],[3],[4],[4],[4,6],[4,5,7],[4,8],[9],[9],[9,10,11],[9,12],[9],[9],[9,14,15],[9,16],[9,13,17],[4,9,18],[4,19]] [45,46,47,48,49,50,51,52,53,54,55,56,57,58,59,60,61,62,63,64,65] [jI (j:Int),v,jI (ys.length:Int),.bool false,.bool false,jI (i:Int),u,jI (xs.length:Int),.bool true,.bool true,u,jI (i:Int),elP u ((i:Int).toNat*1),jI (xs.getD i 0),v,jI (j:Int),elP v ((j:Int).toNat*1),jI (ys.getD j 0),.bool true,.bool true,.bool true] (by kernel_rfl) A ?_ ?_
 exact⟨bK A (aK A) A,bK A (aK A) A,bK A (bC A Tryz.underlying26 A (aE hv)) A,.inl ⟨A,eQ (dC A A A A) hb26⟩,bK A (aK A) A,bK A (aK A) A,bK A (aK A) A,bK A (bC A Tryz.underlying26 A (aE hu)) A,.inl ⟨A,eQ (dC A A A A) hb27⟩,bK A (aK A) A,bK A (aK A) A,bK A (aK A) A,bK A (dF 1 A A A A (aE hu)) A,bK A (hC A A A (aE hu)) A,bK A (aK A) A,bK A (aK A) A,bK A (dF 1 A A A A (aE hv)) A,bK A (hC A A A (aE hv)) A,.inl ⟨A,eQ (dC A A A A) hb28⟩,bK A (aK A) A,bK A (aK A) A,trivial⟩
 simp only[List.drop_succ_cons,List.drop_zero]
 refine dJ 1 A ?_
 exact fR true ⟨fun _=>by first|omega|contradiction,fun _=>by first|omega|contradiction⟩ (cT A) (dS A)
 have hb28p:¬(xs.getD i 0<ys.getD j 0):=of_decide_eq_false hb28
 refine cJ 21 [[],[],[1],[0,2],[3],[4],[4],[4,6],[4,5,7],[4,8],[9],[9],[9,10,11],[9,12],[9],[9],[9,14,15],[9,16],[9,13,17],[4,9,18],[4,19]] [45,46,47,48,49,50,51,52,53,54,55,56,57,58,59,60,61,62,63,64,65] [jI (j:Int),v,jI (ys.length:Int),.bool false,.bool false,jI (i:Int),u,jI (xs.length:Int),.bool true,.bool true,u,jI (i:Int),elP u ((i:Int).toNat*1),jI (xs.getD i 0),v,jI (j:Int),elP v ((j:Int).toNat*1),jI (ys.getD j 0),.bool false,.bool false,.bool false] (by kernel_rfl) A ?_ ?_
 exact⟨bK A (aK A) A,bK A (aK A) A,bK A (bC A Tryz.underlying26 A (aE hv)) A,.inl ⟨A,eQ (dC A A A A) hb26⟩,bK A (aK A) A,bK A (aK A) A,bK A (aK A) A,bK A (bC A Tryz.underlying26 A (aE hu)) A,.inl ⟨A,eQ (dC A A A A) hb27⟩,bK A (aK A) A,bK A (aK A) A,bK A (aK A) A,bK A (dF 1 A A A A (aE hu)) A,bK A (hC A A A (aE hu)) A,bK A (aK A) A,bK A (aK A) A,bK A (dF 1 A A A A (aE hv)) A,bK A (hC A A A (aE hv)) A,.inl ⟨A,eQ (dC A A A A) hb28⟩,bK A (aK A) A,bK A (aK A) A,trivial⟩
 simp only[List.drop_succ_cons,List.drop_zero]
 refine dJ 1 A ?_
 exact fR false ⟨fun _=>by first|omega|contradiction,fun _=>by first|omega|contradiction⟩ (cT A) (dS A)
 have hb27p:¬((i:Int)<(xs.length:Int)):=of_decide_eq_false hb27
 refine cJ 21 [[],[],[1],[0,2],[3],[4],[4],[4,6],[4,5,7],[4,8],[9],[9],[9],[9],[9],[9],[9],[9],[9],[4,9,18],[4,19]] [45,46,47,48,49,50,51,52,53,54,55,56,57,58,59,60,61,62,63,64,65] [jI (j:Int),v,jI (ys.length:Int),.bool false,.bool false,jI (i:Int),u,jI (xs.length:Int),.bool false,.bool false,undef,undef,undef,undef,undef,undef,undef,undef,undef,.bool false,.bool false] (by kernel_rfl) A ?_ ?_
 exact⟨bK A (aK A) A,bK A (aK A) A,bK A (bC A Tryz.underlying26 A (aE hv)) A,.inl ⟨A,eQ (dC A A A A) hb26⟩,bK A (aK A) A,bK A (aK A) A,bK A (aK A) A,bK A (bC A Tryz.underlying26 A (aE hu)) A,.inl ⟨A,eQ (dC A A A A) hb27⟩,bK A (aK A) A,.inr ⟨A,A⟩,.inr ⟨A,A⟩,.inr ⟨A,A⟩,.inr ⟨A,A⟩,.inr ⟨A,A⟩,.inr ⟨A,A⟩,.inr ⟨A,A⟩,.inr ⟨A,A⟩,.inr ⟨A,A⟩,bK A (aK A) A,bK A (aK A) A,trivial⟩
 simp only[List.drop_succ_cons,List.drop_zero]
 refine dJ 1 A ?_
 exact fR false ⟨fun _=>by first|omega|contradiction,fun _=>by first|omega|contradiction⟩ (cT A) (dS A)
 intro b4 hm29
 obtain⟨hm4,hm5⟩:=hm29
 refine fU A (fun h30=>?_) (fun h30=>?_)
 refine aC (bZ 3 A ?_)
 have hlt4:=hm4 (by assumption)
 refine aP A (dF 1 A A A A (aE hu)) (aP A (hC A A A (aE hu)) ?_)
 refine dP A (bB (z:=jI 0) (s:=1) (cs:=(mI [xs.getD i 0])) A Tryz.underlying26 A (by decide) A (by kernel_rfl) A) ?_
 intro g31
 refine cW (i:=1) (z:=jI 0) (bytes:=8) A A A A Tryz.underlying26 (by kernel_rfl) A A A A (aG 0 A) (cO _) (by first|omega|(simp;done)|(simp;omega)) (cH os ([xs.getD i 0])) (dL os ([xs.getD i 0])) (fun _=>A) ?_
 intro v32
 refine aU 1 A (bZ 1 A (aP A (dM A A A) (dJ 1 A (cX (cX ?_)))))
 exact eD (i+1) j v32 (os++([xs.getD i 0])) ⟨by omega,by omega,by rw[List.length_append,List.length_singleton];omega⟩ (by omega) (cT rfl) (eJ [1] rfl)
 refine lQ (α:=Bool) (fun b7=>[rI9 3 gu os]) (fun b7=>[(0,u),(1,v),(4,.slice none 0 0),(5,.bool false),(6,gu),(7,jI (i:Int)),(8,jI (j:Int)),(17,.bool false),(28,.bool true),(31,.bool false),(44,.bool b4),(75,.bool b7)]) (fun b7=>(b7=false→i<xs.length)) ?_ ?_
 have hlt5:=hm5 (by assumption)
 rcases Bool.eq_false_or_eq_true ((i:Int)==(xs.length:Int)) with hb33|hb33
 have hb33p:(i:Int)=(xs.length:Int):=beq_iff_eq.1 hb33
 have hlt5:=hm5 (by assumption)
 refine cJ 15 [[],[],[1],[0,2],[3],[4],[4],[4],[4],[4],[4],[4],[4],[4],[4,13]] [76,77,78,79,80,81,82,83,84,85,86,87,88,89,90] [jI (i:Int),u,jI (xs.length:Int),.bool true,.bool true,undef,undef,undef,undef,undef,undef,undef,undef,undef,.bool true] (by kernel_rfl) A ?_ ?_
 exact⟨bK A (aK A) A,bK A (aK A) A,bK A (bC A Tryz.underlying26 A (aE hu)) A,.inl ⟨A,eQ (dC A A A A) hb33⟩,bK A (aK A) A,.inr ⟨A,A⟩,.inr ⟨A,A⟩,.inr ⟨A,A⟩,.inr ⟨A,A⟩,.inr ⟨A,A⟩,.inr ⟨A,A⟩,.inr ⟨A,A⟩,.inr ⟨A,A⟩,.inr ⟨A,A⟩,bK A (aK A) A,trivial⟩
 simp only[List.drop_succ_cons,List.drop_zero]
 refine dJ 1 A ?_
 exact fR true (fun _=>by first|omega|contradiction) (cT A) (dS A)
 have hb33p:(i:Int)≠(xs.length:Int):=beq_eq_false_iff_ne.1 hb33
 have hlt5:=hm5 (by assumption)
 rcases Bool.eq_false_or_eq_true (decide (ys.getD j 0<xs.getD i 0)) with hb34|hb34
 have hb34p:ys.getD j 0<xs.getD i 0:=of_decide_eq_true hb34
 have hlt5:=hm5 (by assumption)
 refine cJ 15 [[],[],[1],[0,2],[3],[4],[4],[4,5,6],[4,7],[4],[4],[4,9,10],[4,11],[4,8,12],[4,13]] [76,77,78,79,80,81,82,83,84,85,86,87,88,89,90] [jI (i:Int),u,jI (xs.length:Int),.bool false,.bool false,v,jI (j:Int),elP v ((j:Int).toNat*1),jI (ys.getD j 0),u,jI (i:Int),elP u ((i:Int).toNat*1),jI (xs.getD i 0),.bool true,.bool true] (by kernel_rfl) A ?_ ?_
 exact⟨bK A (aK A) A,bK A (aK A) A,bK A (bC A Tryz.underlying26 A (aE hu)) A,.inl ⟨A,eQ (dC A A A A) hb33⟩,bK A (aK A) A,bK A (aK A) A,bK A (aK A) A,bK A (dF 1 A A A A (aE hv)) A,bK A (hC A A A (aE hv)) A,bK A (aK A) A,bK A (aK A) A,bK A (dF 1 A A A A (aE hu)) A,bK A (hC A A A (aE hu)) A,.inl ⟨A,eQ (dC A A A A) hb34⟩,bK A (aK A) A,trivial⟩
 simp only[List.drop_succ_cons,List.drop_zero]
 refine dJ 1 A ?_
 exact fR true (fun _=>by first|omega|contradiction) (cT A) (dS A)
 have hb34p:¬(ys.getD j 0<xs.getD i 0):=of_decide_eq_false hb34
 have hlt5:=hm5 (by assumption)
 refine cJ 15 [[],[],[1],[0,2],[3],[4],[4],[4,5,6],[4,7],[4],[4],[4,9,10],[4,11],[4,8,12],[4,13]] [76,77,78,79,80,81,82,83,84,85,86,87,88,89,90] [jI (i:Int),u,jI (xs.length:Int),.bool false,.bool false,v,jI (j:Int),elP v ((j:Int).toNat*1),jI (ys.getD j 0),u,jI (i:Int),elP u ((i:Int).toNat*1),jI (xs.getD i 0),.bool false,.bool false] (by kernel_rfl) A ?_ ?_
 exact⟨bK A (aK A) A,bK A (aK A) A,bK A (bC A Tryz.underlying26 A (aE hu)) A,.inl ⟨A,eQ (dC A A A A) hb33⟩,bK A (aK A) A,bK A (aK A) A,bK A (aK A) A,bK A (dF 1 A A A A (aE hv)) A,bK A (hC A A A (aE hv)) A,bK A (aK A) A,bK A (aK A) A,bK A (dF 1 A A A A (aE hu)) A,bK A (hC A A A (aE hu)) A,.inl ⟨A,eQ (dC A A A A) hb34⟩,bK A (aK A) A,trivial⟩
 simp only[List.drop_succ_cons,List.drop_zero]
 refine dJ 1 A ?_
 exact fR false (fun _=>by first|omega|contradiction) (cT A) (dS A)
 intro b7 hm35
 have hm7:=hm35
 refine fU A (fun h36=>?_) (fun h36=>?_)
 refine aC (bZ 3 A ?_)
 have hlt6:=hm5 (by assumption)
 refine aP A (dF 1 A A A A (aE hv)) (aP A (hC A A A (aE hv)) ?_)
 refine dP A (bB (z:=jI 0) (s:=1) (cs:=(mI [ys.getD j 0])) A Tryz.underlying26 A (by decide) A (by kernel_rfl) A) ?_
 intro g37
 refine cW (i:=1) (z:=jI 0) (bytes:=8) A A A A Tryz.underlying26 (by kernel_rfl) A A A A (aG 0 A) (cO _) (by first|omega|(simp;done)|(simp;omega)) (cH os ([ys.getD j 0])) (dL os ([ys.getD j 0])) (fun _=>A) ?_
 intro v38
 refine aU 1 A (bZ 1 A (aP A (dM A A A) (dJ 1 A (cX (cX ?_)))))
 exact eD i (j+1) v38 (os++([ys.getD j 0])) ⟨by omega,by omega,by rw[List.length_append,List.length_singleton];omega⟩ (by omega) (cT rfl) (eJ [1] rfl)
 refine aC (bZ 3 A ?_)
 have hlt6:=hm5 (by assumption)
 have hlt7:=hm7 (by assumption)
 refine aP A (dF 1 A A A A (aE hu)) (aP A (hC A A A (aE hu)) ?_)
 refine dP A (bB (z:=jI 0) (s:=1) (cs:=(mI [xs.getD i 0])) A Tryz.underlying26 A (by decide) A (by kernel_rfl) A) ?_
 intro g39
 refine cW (i:=1) (z:=jI 0) (bytes:=8) A A A A Tryz.underlying26 (by kernel_rfl) A A A A (aG 0 A) (cO _) (by first|omega|(simp;done)|(simp;omega)) (cH os ([xs.getD i 0])) (dL os ([xs.getD i 0])) (fun _=>A) ?_
 intro v40
 refine aU 1 A (aC (bZ 1 A (aP A (dM A A A) (aU 1 A (bZ 1 A ?_)))))
 refine aP A (dM A A A) (dJ 1 A (cX (cX ?_)))
 exact eD (i+1) (j+1) v40 (os++([xs.getD i 0])) ⟨by omega,by omega,by rw[List.length_append,List.length_singleton];omega⟩ (by omega) (cT rfl) (eJ [1] rfl)
 refine aU 1 A (aS A ?_)
 refine bM (dI ?_)
 refine aO (bF (bD 3 A ?_))
 exact aV (bV (rs:=[.tmp 4,.tmp 5]) (vs:=[gu,.bool true]) (post:=[rI9 3 gu os]) A ⟨A,A,trivial⟩ A (dS A) ⟨_,os,true,A,A,hol⟩)
 refine aU 2 A (aR A (bD 3 A ?_))
 refine aV (aL ?_)
 exact bV (rs:=[.tmp 4,.tmp 5]) (vs:=[.slice (some ⟨g1,0,none⟩) 0 0,.bool false]) (post:=[rowE 3 1 (.slice (some ⟨g1,0,none⟩) 0 0) 0 ([])]) A ⟨A,A,trivial⟩ A (dS A) ⟨_,[],false,A,A,by simp⟩
 refine aU 6 A (aR A (bD 3 A ?_))
 refine aV (aL ?_)
 exact bV (rs:=[.tmp 4,.tmp 5]) (vs:=[.slice (some ⟨g1,0,none⟩) 0 0,.bool false]) (post:=[rowE 3 1 (.slice (some ⟨g1,0,none⟩) 0 0) 0 ([])]) A ⟨A,A,trivial⟩ A (dS A) ⟨_,[],false,A,A,by simp⟩
theorem yO (rs:List CRow) (ux:List Int) (v uv:Value) (w:World) (hv:RdsCl w v rs) (hr4:∀r∈rs,r.xs.length≤4) (hrl:rs.length≤1000) (hu:RdsW w uv 1 ux.length (ux.map (Value.int .i64))) (hul:ux.length≤4) :
   Calls Tryz.prog 109 #[v,uv] w (Ret w (fun u_ p_=>∃zs:List CRow,p_=[rS9 26 1 u_ zs crowC]∧(∀z∈zs,z=CRow.mk uv ux∨z∈rs)∧zs.length≤rs.length+1)):=by
 refine bN (N:=51) (args:=[v,uv]) Tryz.func109 A A (bD 1 A (cF ?_))
 refine dP A (dH (s:=1) A Tryz.underlying33 A) ?_
 intro g1
 refine aU 1 A (bD 1 A (aC (aC (bZ 1 A ?_))))
 refine bR (bE ?_)
 refine oP (α:=Nat) (β:=List CRow) (γ:=Value) (δ:=Nat) [0,1,4] A (fun i zs gu c=>[rS9 26 1 gu zs crowC]) (fun i zs gu c=>[(5,gu),(6,.bool (decide (c=1))),(7,jI (i:Int))]) (fun i zs gu c=>i≤rs.length∧c≤1∧(∀z∈zs,z=CRow.mk uv ux∨z∈rs)∧zs.length≤i+c) (fun i zs gu c=>rs.length-i) 0 [] _ 0 ⟨Nat.zero_le _,by omega,(fun z hz=>by cases hz),by simp⟩ (cT A) (dS A) ?_
 intro i zs gu c hi2
 obtain⟨hi,hc,hzm,hzl⟩:=hi2
 refine aC (aC (bZ 2 A (aP A (bC A Tryz.underlying33 A (aE hv.row)) ?_)))
 refine bQ A A A A A A (fun h3=>?_) (fun h3=>?_)
 refine bR (aR A (bY (fM (aC (aC (bZ 1 A ?_))))))
 refine bW (fun h4=>?_) (fun h4=>?_)
 have h4p:c=1:=of_decide_eq_true h4
 refine aU 10 A (aS A (bY (bZ 3 A ?_)))
 refine aP A (dF 1 A A A A (aE hv.row)) (aP A (bG (u:=(rs.getD i crow0).v) A A A (aE hv.row) (dG crowC (fun r=>r.v) (fun _=>A) rs crow0 (show i<_ by omega))) ?_)
 refine dP A (fH A Tryz.underlying33 (by kernel_rfl) A (hv.at (k:=i) (by omega)).one) ?_
 intro g5
 refine cW (i:=1) (z:=.slice none 0 0) (bytes:=24) A A A A Tryz.underlying33 (by kernel_rfl) A A A A (aG 0 A) (fun q hq=>by rw[List.mem_singleton] at hq;subst hq;exact(hv.at (k:=i) (by omega)).one) (by first|omega|(simp only[List.length_append,List.length_cons,List.length_nil];omega)) (cH zs [(rs.getD i crow0)]) (dY crowC zs (rs.getD i crow0) _ A) (fun _=>A) ?_
 intro v6
 refine dJ 1 A (cK (bZ 1 A (aP A (dM A A A) (dJ 1 A ?_))))
 exact eD (i+1) (zs++[(rs.getD i crow0)]) v6 c ⟨by omega,by omega,(mH hzm (.inr (dO (by omega)))),by simp only[List.length_append,List.length_cons,List.length_nil];omega⟩ (by omega) (cT A) (eJ [1] A)
 have h4p:¬c=1:=of_decide_eq_false h4
 refine aM 4 A (aP A (dF 1 A A A A (aE hv.row)) ?_)
 refine aP A (bG (u:=(rs.getD i crow0).v) A A A (aE hv.row) (dG crowC (fun r=>r.v) (fun _=>A) rs crow0 (show i<_ by omega))) (aM 1 A ?_)
 have h4i:=hr4 _ (dO (es:=rs) (i:=i) (d:=crow0) (by omega))
 refine dA A (aJ A A (fun w hm=>aY (oG ((rs.getD i crow0).xs) ux _ _ w ((aE (hv.at (k:=i) (by omega))) w hm) ((aE hu) w hm) (by omega)))) (bW (fun h7=>?_) (fun h7=>?_))
 refine aU 2 A (aS A (bY (bZ 3 A (aP A (dF 1 A A A A (aE hv.row)) ?_))))
 refine aP A (bG (u:=(rs.getD i crow0).v) A A A (aE hv.row) (dG crowC (fun r=>r.v) (fun _=>A) rs crow0 (show i<_ by omega))) (dP A (fH A Tryz.underlying33 (by kernel_rfl) A (hv.at (k:=i) (by omega)).one) ?_)
 intro g8
 refine cW (i:=1) (z:=.slice none 0 0) (bytes:=24) A A A A Tryz.underlying33 (by kernel_rfl) A A A A (aG 0 A) (fun q hq=>by rw[List.mem_singleton] at hq;subst hq;exact(hv.at (k:=i) (by omega)).one) (by first|omega|(simp only[List.length_append,List.length_cons,List.length_nil];omega)) (cH zs [(rs.getD i crow0)]) (dY crowC zs (rs.getD i crow0) _ A) (fun _=>A) ?_
 intro v9
 refine dJ 1 A (cK (bZ 1 A (aP A (dM A A A) (dJ 1 A ?_))))
 exact eD (i+1) (zs++[(rs.getD i crow0)]) v9 c ⟨by omega,by omega,(mH hzm (.inr (dO (by omega)))),by simp only[List.length_append,List.length_cons,List.length_nil];omega⟩ (by omega) (cT A) (eJ [1] A)
 refine aU 2 A (aR A (bD 1 A (aC (bZ 2 A ?_))))
 refine dP A (fH A Tryz.underlying33 (by kernel_rfl) A hu.one) ?_
 intro g10
 refine cW (i:=1) (z:=.slice none 0 0) (bytes:=24) A A A A Tryz.underlying33 (by kernel_rfl) A A A A (aG 0 A) (fun q hq=>by rw[List.mem_singleton] at hq;subst hq;exact hu.one) (by first|omega|(simp only[List.length_append,List.length_cons,List.length_nil];omega)) (cH zs [(CRow.mk uv ux)]) (dY crowC zs (CRow.mk uv ux) _ A) (fun _=>A) ?_
 intro v11
 refine aU 1 A (aC (bZ 3 A (aP A (dF 1 A A A A (aE hv.row)) ?_)))
 refine aP A (bG (u:=(rs.getD i crow0).v) A A A (aE hv.row) (dG crowC (fun r=>r.v) (fun _=>A) rs crow0 (show i<_ by omega))) (dA A (aJ A A (fun w hm=>aY (oG ux ((rs.getD i crow0).xs) _ _ w ((aE hu) w hm) ((aE (hv.at (k:=i) (by omega))) w hm) (by omega)))) ?_)
 refine bW (fun h12=>?_) (fun h12=>?_)
 refine aU 1 A (aS A (bY (bZ 3 A (aP A (dF 1 A A A A (aE hv.row)) ?_))))
 refine aP A (bG (u:=(rs.getD i crow0).v) A A A (aE hv.row) (dG crowC (fun r=>r.v) (fun _=>A) rs crow0 (show i<_ by omega))) (dP A (fH A Tryz.underlying33 (by kernel_rfl) A (hv.at (k:=i) (by omega)).one) ?_)
 intro g13
 refine cW (i:=2) (z:=.slice none 0 0) (bytes:=24) A A A A Tryz.underlying33 (by kernel_rfl) A A A A (aG 0 A) (fun q hq=>by rw[List.mem_singleton] at hq;subst hq;exact(hv.at (k:=i) (by omega)).one) (by first|omega|(simp only[List.length_append,List.length_cons,List.length_nil];omega)) (cH (zs++[(CRow.mk uv ux)]) [(rs.getD i crow0)]) (dY crowC (zs++[(CRow.mk uv ux)]) (rs.getD i crow0) _ A) (fun _=>A) ?_
 intro v14
 refine dJ 1 A (cK (bZ 1 A (aP A (dM A A A) (dJ 1 A ?_))))
 exact eD (i+1) ((zs++[(CRow.mk uv ux)])++[(rs.getD i crow0)]) v14 1 ⟨by omega,by omega,(mH (mH hzm (.inl A)) (.inr (dO (by omega)))),by simp only[List.length_append,List.length_cons,List.length_nil];omega⟩ (by omega) (cT A) (eJ [2] A)
 refine aU 1 A (aR A ?_)
 refine bM (gF ?_)
 refine aO (bF (bZ 1 A (aP A (dM A A A) (dJ 1 A ?_))))
 exact eD (i+1) (zs++[(CRow.mk uv ux)]) v11 1 ⟨by omega,by omega,(mH hzm (.inl A)),by simp only[List.length_append,List.length_cons,List.length_nil];omega⟩ (by omega) (cT A) (eJ [1] A)
 refine bR (aS A ?_)
 refine bM (dI ?_)
 refine aO (bF (aC (aC (bZ 1 A ?_))))
 refine bW (fun h15=>?_) (fun h15=>?_)
 have h15p:c=1:=of_decide_eq_true h15
 refine aU 1 A (aS A (bY (bD 2 A ?_)))
 exact aV (dX (post:=[rS9 26 1 gu zs crowC]) A A (dS A) ⟨_,A,hzm,by omega⟩)
 have h15p:¬c=1:=of_decide_eq_false h15
 refine aU 1 A (aR A (bZ 2 A ?_))
 refine dP A (fH A Tryz.underlying33 (by kernel_rfl) A hu.one) ?_
 intro g16
 refine cW (i:=1) (z:=.slice none 0 0) (bytes:=24) A A A A Tryz.underlying33 (by kernel_rfl) A A A A (aG 0 A) (fun q hq=>by rw[List.mem_singleton] at hq;subst hq;exact hu.one) (by first|omega|(simp only[List.length_append,List.length_cons,List.length_nil];omega)) (cH zs [(CRow.mk uv ux)]) (dY crowC zs (CRow.mk uv ux) _ A) (fun _=>A) ?_
 intro v17
 refine aU 1 A (bD 2 A ?_)
 exact aV (dX (post:=[rowE 26 1 v17 ((zs++[(CRow.mk uv ux)]).length) ((zs++[(CRow.mk uv ux)]).flatMap crowC)]) A A (eJ [1] A) ⟨_,A,(mH hzm (.inl A)),by simp only[List.length_append,List.length_cons,List.length_nil];omega⟩)
theorem wF (ca cb:List CRow) (u v:Value) (w:World) (ha:RdsCl w u ca) (hb:RdsCl w v cb) (h4a:∀r∈ca,r.xs.length≤4) (h4b:∀r∈cb,r.xs.length≤4) (ha8:ca.length≤8) (hb8:cb.length≤8) :
   Calls Tryz.prog 100 #[u,v] w (Ret w (fun u_ p_=>∃(ps:List HP) (us:List CRow),p_=[rS9 26 1 u_ us crowC,bigE ps]∧(∀w,(bigE ps).holds w→RdsAll w us)∧us.length≤7∧∀r∈us,r.xs.length≤4)):=by
 refine bN (N:=95) (args:=[u,v]) Tryz.func100 A A (bD 1 A (cF ?_))
 refine dP A (dH (s:=1) A Tryz.underlying33 A) ?_
 intro g1
 refine aU 1 A (aC (bD 1 A (bE ?_)))
 refine fE _ lT ?_
 refine oP (α:=Nat) (β:=List CRow) (γ:=Value) (δ:=List HP) [0,1,4] A (fun i rs lv ps=>[bigE ps,rS9 26 1 lv rs crowC]) (fun i rs lv ps=>[(5,lv),(6,jI (i:Int))]) (fun i rs lv ps=>i≤ca.length∧rs.length≤i*cb.length+0∧(∀r∈rs,r.xs.length≤4)∧∀w,(bigE ps).holds w→RdsAll w rs) (fun i rs lv ps=>ca.length-i) 0 [] _ [] ⟨Nat.zero_le _,by simp,(fun r hr=>by cases hr),fun w _=>RdsAll.nil w⟩ (cT A) (dS A) ?_
 intro i rs lv ps hi2
 obtain⟨hi,hrl,h4,hps⟩:=hi2
 have hrs:=sQ hrl (by omega) (by omega) (by omega)
 refine aC (aC (bZ 2 A (aP A (bC A Tryz.underlying33 A (aE ha.row)) ?_)))
 refine bQ A A A A A A (fun h3=>?_) (fun h3=>?_)
 refine bR (aR A (bY (fM (bD 1 A ?_))))
 refine bE ?_
 refine oP (α:=Nat) (β:=List CRow) (γ:=Value) (δ:=List HP) [0,1,4,6,18] A (fun j rs2 lv2 ps2=>[bigE ps2,rS9 26 1 lv2 rs2 crowC]) (fun j rs2 lv2 ps2=>[(5,lv2),(7,jI (j:Int))]) (fun j rs2 lv2 ps2=>j≤cb.length∧rs2.length≤i*cb.length+j∧(∀r∈rs2,r.xs.length≤4)∧∀w,(bigE ps2).holds w→RdsAll w rs2) (fun j rs2 lv2 ps2=>cb.length-j) 0 rs _ _ ⟨Nat.zero_le _,hrl,h4,hps⟩ (cT A) (dS A) ?_
 intro j rs2 lv2 ps2 hi4
 obtain⟨hj,hrl2,h42,hps2⟩:=hi4
 have hrs2:=sQ hrl2 (by omega) (by omega) (by omega)
 refine aC (aC (bZ 2 A (aP A (bC A Tryz.underlying33 A (aE hb.row)) ?_)))
 refine bQ A A A A A A (fun h5=>?_) (fun h5=>?_)
 refine bR (aR A (bY (fM (aC ?_))))
 have h4i:=h4a _ (dO (es:=ca) (i:=i) (d:=crow0) (by omega))
 have h4j:=h4b _ (dO (es:=cb) (i:=j) (d:=crow0) (by omega))
 refine eV A 13 [0,1,2,3,4,5,6,7,8,9,10,11,12] (List.take 13 _) (List.drop 13 _) [[],[],[0,1],[2],[],[],[4,5],[6],[3,7],[8],[8,9],[8,9],[8,10]] [28,29,30,31,32,33,34,35,36,27,37,38,8] (fun i_ vs_ v_ p_=>match i_ with|0=>v_=u∧p_=[]|1=>v_=jI (i:Int)∧p_=[]|2=>v_=elP u ((i:Int).toNat*1)∧p_=[]|3=>v_=(ca.getD i crow0).v∧p_=[]|4=>v_=v∧p_=[]|5=>v_=jI (j:Int)∧p_=[]|6=>v_=elP v ((j:Int).toNat*1)∧p_=[]|7=>v_=(cb.getD j crow0).v∧p_=[]|8=>(fun u_ p_=>∃(mv:Value) (us:List Int) (mb:Bool),u_=.tuple #[mv,.bool mb]∧p_=[rI9 3 mv us]∧us.length≤4) v_ p_|9=>v_=.tuple #[(tFstH (gV9 vs_ 0)),.bool (tSndB (gV9 vs_ 0))]∧p_=[]|10=>v_=(tFstH (gV9 vs_ 0))∧p_=[]|11=>v_=.bool (tSndB (gV9 vs_ 0))∧p_=[]|12=>v_=(tFstH (gV9 vs_ 0))∧p_=[]|_=>True) (List.take_append_drop 13 _).symm (by kernel_rfl) (by kernel_rfl) A A ?_ ?_
 refine⟨?_,?_,?_,?_,?_,?_,?_,?_,?_,?_,?_,?_,?_,trivial⟩
 intro vf pf hR
 exact fX A (aI [0] A) (aT (aK A))
 intro vf pf hR
 exact fX A (aI [6] A) (aT (aK A))
 intro vf pf hR
 have e0:=hR 0 (by decide)
 have e1:=hR 1 (by decide)
 exact eZ A (sk 28 (congrArg some e0.1) (sk 29 (congrArg some e1.1) (aB _))) (aT (dF 1 A A A A (aE ha.row)))
 intro vf pf hR
 have e2:=hR 2 (by decide)
 exact eZ A (sk 30 (congrArg some e2.1) (aB _)) (aT (bG (u:=(ca.getD i crow0).v) A A A (aE ha.row) (dG crowC (fun r=>r.v) (fun _=>A) ca crow0 (show i<_ by omega))))
 intro vf pf hR
 exact fX A (aI [1] A) (aT (aK A))
 intro vf pf hR
 exact fX A (aI [7] A) (aT (aK A))
 intro vf pf hR
 have e4:=hR 4 (by decide)
 have e5:=hR 5 (by decide)
 exact eZ A (sk 32 (congrArg some e4.1) (sk 33 (congrArg some e5.1) (aB _))) (aT (dF 1 A A A A (aE hb.row)))
 intro vf pf hR
 have e6:=hR 6 (by decide)
 exact eZ A (sk 34 (congrArg some e6.1) (aB _)) (aT (bG (u:=(cb.getD j crow0).v) A A A (aE hb.row) (dG crowC (fun r=>r.v) (fun _=>A) cb crow0 (show j<_ by omega))))
 intro vf pf hR
 have e3:=hR 3 (by decide)
 have e7:=hR 7 (by decide)
 exact eZ A (sk 31 (congrArg some e3.1) (sk 35 (congrArg some e7.1) (aB _))) (aJ A A (fun w hm=>zG (ca.getD i crow0).xs (cb.getD j crow0).xs _ _ w ((ha.at (k:=i) (by omega)).below hm.bel) ((hb.at (k:=j) (by omega)).below hm.bel) (by omega) (by omega)))
 intro vf pf hR
 have e8:(fun u_ p_=>∃(mv:Value) (us:List Int) (mb:Bool),u_=.tuple #[mv,.bool mb]∧p_=[rI9 3 mv us]∧us.length≤4) (vf 8) (pf 8):=hR 8 (by decide)
 obtain⟨v6,vE8⟩:∃x,vf 8=x:=⟨_,rfl⟩
 obtain⟨p7,pE8⟩:∃x,pf 8=x:=⟨_,rfl⟩
 have R8:=e8
 rw[vE8,pE8] at R8
 obtain⟨mv,us,mb,rfl,rfl,hul⟩:=R8
 refine Or.inl ⟨A,?_⟩
 exact bU (sk 36 (congrArg some vE8) (aB _)) (by simp only[pE8,vE8,fS]<;>rfl) (cD (aT (aK A)) (fun _ _ h=>⟨h.1.trans (by show _=(.tuple #[(tFstH (vf 8)),.bool (tSndB (vf 8))]:Value);first|(rw[vE8];done)|(rw[vE8];rfl)),h.2⟩))
 intro vf pf hR
 have e8:(fun u_ p_=>∃(mv:Value) (us:List Int) (mb:Bool),u_=.tuple #[mv,.bool mb]∧p_=[rI9 3 mv us]∧us.length≤4) (vf 8) (pf 8):=hR 8 (by decide)
 obtain⟨v6,vE8⟩:∃x,vf 8=x:=⟨_,rfl⟩
 obtain⟨p7,pE8⟩:∃x,pf 8=x:=⟨_,rfl⟩
 have R8:=e8
 rw[vE8,pE8] at R8
 obtain⟨mv,us,mb,rfl,rfl,hul⟩:=R8
 have e9:(vf 9)=.tuple #[(tFstH (vf 8)),.bool (tSndB (vf 8))]∧(pf 9)=[]:=hR 9 (by decide)
 rw[vE8] at e9
 refine Or.inl ⟨A,?_⟩
 exact bU (sk 27 (congrArg some e9.1) (aB _)) (by simp only[pE8,vE8,e9.2,fS]<;>rfl) (cD (aT (aK A)) (fun _ _ h=>⟨h.1.trans (by show _=((tFstH (vf 8)):Value);first|(rw[vE8];done)|(rw[vE8];rfl)),h.2⟩))
 intro vf pf hR
 have e8:(fun u_ p_=>∃(mv:Value) (us:List Int) (mb:Bool),u_=.tuple #[mv,.bool mb]∧p_=[rI9 3 mv us]∧us.length≤4) (vf 8) (pf 8):=hR 8 (by decide)
 obtain⟨v6,vE8⟩:∃x,vf 8=x:=⟨_,rfl⟩
 obtain⟨p7,pE8⟩:∃x,pf 8=x:=⟨_,rfl⟩
 have R8:=e8
 rw[vE8,pE8] at R8
 obtain⟨mv,us,mb,rfl,rfl,hul⟩:=R8
 have e9:(vf 9)=.tuple #[(tFstH (vf 8)),.bool (tSndB (vf 8))]∧(pf 9)=[]:=hR 9 (by decide)
 rw[vE8] at e9
 refine Or.inl ⟨A,?_⟩
 exact bU (sk 27 (congrArg some e9.1) (aB _)) (by simp only[pE8,vE8,e9.2,fS]<;>rfl) (cD (aT (aK A)) (fun _ _ h=>⟨h.1.trans (by show _=(.bool (tSndB (vf 8)):Value);first|(rw[vE8];done)|(rw[vE8];rfl)),h.2⟩))
 intro vf pf hR
 have e8:(fun u_ p_=>∃(mv:Value) (us:List Int) (mb:Bool),u_=.tuple #[mv,.bool mb]∧p_=[rI9 3 mv us]∧us.length≤4) (vf 8) (pf 8):=hR 8 (by decide)
 obtain⟨v6,vE8⟩:∃x,vf 8=x:=⟨_,rfl⟩
 obtain⟨p7,pE8⟩:∃x,pf 8=x:=⟨_,rfl⟩
 have R8:=e8
 rw[vE8,pE8] at R8
 obtain⟨mv,us,mb,rfl,rfl,hul⟩:=R8
 have e10:(vf 10)=(tFstH (vf 8))∧(pf 10)=[]:=hR 10 (by decide)
 rw[vE8] at e10
 refine Or.inl ⟨A,?_⟩
 exact bU (sk 37 (congrArg some e10.1) (aB _)) (by simp only[pE8,vE8,e10.2,fS]<;>rfl) (cD (aT (aK A)) (fun _ _ h=>⟨h.1.trans (by show _=((tFstH (vf 8)):Value);first|(rw[vE8];done)|(rw[vE8];rfl)),h.2⟩))
 intro vf pf hR
 have e8:(fun u_ p_=>∃(mv:Value) (us:List Int) (mb:Bool),u_=.tuple #[mv,.bool mb]∧p_=[rI9 3 mv us]∧us.length≤4) (vf 8) (pf 8):=hR 8 (by decide)
 obtain⟨v6,vE8⟩:∃x,vf 8=x:=⟨_,rfl⟩
 obtain⟨p7,pE8⟩:∃x,pf 8=x:=⟨_,rfl⟩
 have R8:=e8
 rw[vE8,pE8] at R8
 obtain⟨mv,us,mb,rfl,rfl,hul⟩:=R8
 have e11:(vf 11)=.bool (tSndB (vf 8))∧(pf 11)=[]:=hR 11 (by decide)
 rw[vE8] at e11
 have e12:(vf 12)=(tFstH (vf 8))∧(pf 12)=[]:=hR 12 (by decide)
 rw[vE8] at e12
 have q0:=hR 0 (by decide)
 have q1:=hR 1 (by decide)
 have q2:=hR 2 (by decide)
 have q3:=hR 3 (by decide)
 have q4:=hR 4 (by decide)
 have q5:=hR 5 (by decide)
 have q6:=hR 6 (by decide)
 have q7:=hR 7 (by decide)
 have q9:=hR 9 (by decide)
 have q10:=hR 10 (by decide)
 have q11:=hR 11 (by decide)
 have q12:=hR 12 (by decide)
 refine cE (bO [7,6,5,4,1,0] _ (sk 8 (congrArg some e12.1) (sk 18 A (sk 24 A (sk 38 (congrArg some e11.1) (aB _))))) A) (by simp only[pE8,vE8,q0.2,q1.2,q2.2,q3.2,q4.2,q5.2,q6.2,q7.2,q9.2,q10.2,q11.2,q12.2,fS]<;>rfl) ?_
 simp only[List.drop_succ_cons,List.drop_zero]
 refine aU 1 A (bD 1 A ?_)
 refine fU A (fun h9=>?_) (fun h9=>?_)
 refine bZ 2 A ?_
 refine eB A A A (aJ A A (fun w hm=>yO rs2 us _ _ w ⟨aG 2 A w hm,hps2 w (hm.holds _ (bX (i:=1) A))⟩ h42 (by omega) (aG 0 A w hm) hul)) ?_
 intro v10 p11 R12
 obtain⟨zs,rfl,hzm,hzl⟩:=R12
 refine dJ 1 A (cK (bZ 1 A (aP A (dM A A A) (dJ 1 A ?_))))
 refine aZ 4 [0,1,2] A A (by decide) ?_
 refine cB 2 A ?_
 exact eD (j+1) zs v10 [bigE ps2,rI9 3 mv us] ⟨by omega,by omega,Bu h42 hul hzm,fun w hw=>RdsAll.cons (u:=CRow.mk mv us) (hps2 w (aX hw cL)) (bT (aX hw (dK cL))) hzm⟩ (by omega) (cT A) (dS A)
 refine fP (cK (bZ 1 A (aP A (dM A A A) (dJ 1 A ?_))))
 exact eD (j+1) rs2 lv2 ps2 ⟨by omega,by omega,h42,hps2⟩ (by omega) (cT A) (eJ [1,0] A)
 refine bR (aS A ?_)
 refine bM (dI ?_)
 refine aO (cK (bZ 1 A (aP A (dM A A A) (dJ 1 A ?_))))
 exact eD (i+1) rs2 lv2 ps2 ⟨by omega,by rw[Nat.add_mul];omega,h42,hps2⟩ (by omega) (cT rfl) (dS rfl)
 refine bR (aS A ?_)
 refine bM (dI ?_)
 refine aO (bF (cF ?_))
 refine dP A (dH (s:=1) A Tryz.underlying33 A) ?_
 intro g13
 refine aU 1 A (aC (bD 1 A (bE ?_)))
 refine iC (α:=Nat) (β:=List CRow) (γ:=Value) [0,1,4,5,18] A (fun i2 qs ov=>[rS9 26 1 ov qs crowC,bigE ps,rS9 26 1 lv rs crowC]) (fun i2 qs ov=>[(10,ov),(11,jI (i2:Int))]) (fun i2 qs ov=>i2≤rs.length∧qs.length≤7∧∀q∈qs,q∈rs) (fun i2 qs ov=>rs.length-i2) 0 [] _ ⟨Nat.zero_le _,by simp,fun q hq=>by cases hq⟩ (cT A) (dS A) ?_
 intro i2 qs ov hi14
 obtain⟨hi2,hql,hqm⟩:=hi14
 refine aC (aC (bZ 2 A (aP A (bC A Tryz.underlying33 A (aG 2 A)) ?_)))
 refine bQ A A A A A A (fun h15=>?_) (fun h15=>?_)
 refine aM 2 A (aP A (bC A Tryz.underlying33 A (aG 0 A)) ?_)
 refine bQ A A A A A A (fun h16=>?_) (fun h16=>?_)
 refine aU 1 A (aR A (bY (fM (cF (dJ 1 A ?_)))))
 refine bF (aC (bD 1 A (bE ?_)))
 refine gT (α:=Nat) (β:=Bool) [0,1,4,5,10,11,18,52] A (fun k2 wh=>[rS9 26 1 ov qs crowC,bigE ps,rS9 26 1 lv rs crowC]) (fun k2 wh=>[(12,.bool wh),(13,jI (k2:Int))]) (fun k2 wh=>k2≤i2) (fun k2 wh=>i2-k2) 0 true (Nat.zero_le _) (cT A) (dS A) ?_
 intro k2 wh hi17
 have hk2:=hi17
 refine aC (aC (bZ 2 A ?_))
 refine bQ A A A A A A (fun h18=>?_) (fun h18=>?_)
 refine aM 2 A (bW (fun h19=>?_) (fun h19=>?_))
 refine aU 1 A (aR A (bY (fM ?_)))
 have h4i:=h4 _ (dO (es:=rs) (i:=i2) (d:=crow0) (by omega))
 have h4k:=h4 _ (dO (es:=rs) (i:=k2) (d:=crow0) (by omega))
 rcases Bool.eq_false_or_eq_true (decide ((((rs.getD k2 crow0).xs).length:Int)<(((rs.getD i2 crow0).xs).length:Int))) with hb20|hb20
 have hb20p:(((rs.getD k2 crow0).xs).length:Int)<(((rs.getD i2 crow0).xs).length:Int):=of_decide_eq_true hb20
 have h4i:=h4 _ (dO (es:=rs) (i:=i2) (d:=crow0) (by omega))
 have h4k:=h4 _ (dO (es:=rs) (i:=k2) (d:=crow0) (by omega))
 rcases Bool.eq_false_or_eq_true (List.all ((rs.getD k2 crow0).xs) (hasB ((rs.getD i2 crow0).xs))) with hb21|hb21
 have h4i:=h4 _ (dO (es:=rs) (i:=i2) (d:=crow0) (by omega))
 have h4k:=h4 _ (dO (es:=rs) (i:=k2) (d:=crow0) (by omega))
 refine cJ 23 [[],[],[0,1],[2],[3],[],[],[5,6],[7],[8],[4,9],[10],[11],[11],[11,12,13],[11,14],[11],[11],[11,16,17],[11,18],[11,15,19],[11,20],[21]] [63,64,65,66,67,68,69,70,71,72,73,74,75,76,77,78,79,80,81,82,83,84,85] [lv,jI (k2:Int),elP lv ((k2:Int).toNat*1),(rs.getD k2 crow0).v,jI (((rs.getD k2 crow0).xs).length:Int),lv,jI (i2:Int),elP lv ((i2:Int).toNat*1),(rs.getD i2 crow0).v,jI (((rs.getD i2 crow0).xs).length:Int),.bool true,.bool true,lv,jI (k2:Int),elP lv ((k2:Int).toNat*1),(rs.getD k2 crow0).v,lv,jI (i2:Int),elP lv ((i2:Int).toNat*1),(rs.getD i2 crow0).v,.bool true,.bool true,.bool false] (by kernel_rfl) A ?_ ?_
 exact⟨bK A (aK A) A,bK A (aK A) A,bK A (dF 1 A A A A (aG 2 A)) A,bK A (bG (u:=(rs.getD k2 crow0).v) A A A (aG 2 A) (dG crowC (fun r=>r.v) (fun _=>A) rs crow0 (show k2<_ by omega))) A,bK A (bC A Tryz.underlying26 A (fun w hm=>((hps w (hm.holds _ (bX (i:=1) A))).at (k:=k2) (by omega)))) A,bK A (aK A) A,bK A (aK A) A,bK A (dF 1 A A A A (aG 2 A)) A,bK A (bG (u:=(rs.getD i2 crow0).v) A A A (aG 2 A) (dG crowC (fun r=>r.v) (fun _=>A) rs crow0 (show i2<_ by omega))) A,bK A (bC A Tryz.underlying26 A (fun w hm=>((hps w (hm.holds _ (bX (i:=1) A))).at (k:=i2) (by omega)))) A,.inl ⟨A,eQ (dC A A A A) hb20⟩,bK A (aK A) A,bK A (aK A) A,bK A (aK A) A,bK A (dF 1 A A A A (aG 2 A)) A,bK A (bG (u:=(rs.getD k2 crow0).v) A A A (aG 2 A) (dG crowC (fun r=>r.v) (fun _=>A) rs crow0 (show k2<_ by omega))) A,bK A (aK A) A,bK A (aK A) A,bK A (dF 1 A A A A (aG 2 A)) A,bK A (bG (u:=(rs.getD i2 crow0).v) A A A (aG 2 A) (dG crowC (fun r=>r.v) (fun _=>A) rs crow0 (show i2<_ by omega))) A,.inl ⟨A,iH (aJ A A (fun w hm=>aY (mN ((rs.getD k2 crow0).xs) ((rs.getD i2 crow0).xs) _ _ w ((fun w hm=>((hps w (hm.holds _ (bX (i:=1) A))).at (k:=k2) (by omega))) w hm) ((fun w hm=>((hps w (hm.holds _ (bX (i:=1) A))).at (k:=i2) (by omega))) w hm) (by omega)))) hb21⟩,bK A (aK A) A,bK A (aK A) A,trivial⟩
 simp only[List.drop_succ_cons,List.drop_zero]
 refine dJ 1 A (cK (bZ 1 A (aP A (dM A A A) (dJ 1 A ?_))))
 exact cG (k2+1) false (by omega) (by omega) (cT A) (dS A)
 have h4i:=h4 _ (dO (es:=rs) (i:=i2) (d:=crow0) (by omega))
 have h4k:=h4 _ (dO (es:=rs) (i:=k2) (d:=crow0) (by omega))
 refine cJ 23 [[],[],[0,1],[2],[3],[],[],[5,6],[7],[8],[4,9],[10],[11],[11],[11,12,13],[11,14],[11],[11],[11,16,17],[11,18],[11,15,19],[11,20],[21]] [63,64,65,66,67,68,69,70,71,72,73,74,75,76,77,78,79,80,81,82,83,84,85] [lv,jI (k2:Int),elP lv ((k2:Int).toNat*1),(rs.getD k2 crow0).v,jI (((rs.getD k2 crow0).xs).length:Int),lv,jI (i2:Int),elP lv ((i2:Int).toNat*1),(rs.getD i2 crow0).v,jI (((rs.getD i2 crow0).xs).length:Int),.bool true,.bool true,lv,jI (k2:Int),elP lv ((k2:Int).toNat*1),(rs.getD k2 crow0).v,lv,jI (i2:Int),elP lv ((i2:Int).toNat*1),(rs.getD i2 crow0).v,.bool false,.bool false,.bool true] (by kernel_rfl) A ?_ ?_
 exact⟨bK A (aK A) A,bK A (aK A) A,bK A (dF 1 A A A A (aG 2 A)) A,bK A (bG (u:=(rs.getD k2 crow0).v) A A A (aG 2 A) (dG crowC (fun r=>r.v) (fun _=>A) rs crow0 (show k2<_ by omega))) A,bK A (bC A Tryz.underlying26 A (fun w hm=>((hps w (hm.holds _ (bX (i:=1) A))).at (k:=k2) (by omega)))) A,bK A (aK A) A,bK A (aK A) A,bK A (dF 1 A A A A (aG 2 A)) A,bK A (bG (u:=(rs.getD i2 crow0).v) A A A (aG 2 A) (dG crowC (fun r=>r.v) (fun _=>A) rs crow0 (show i2<_ by omega))) A,bK A (bC A Tryz.underlying26 A (fun w hm=>((hps w (hm.holds _ (bX (i:=1) A))).at (k:=i2) (by omega)))) A,.inl ⟨A,eQ (dC A A A A) hb20⟩,bK A (aK A) A,bK A (aK A) A,bK A (aK A) A,bK A (dF 1 A A A A (aG 2 A)) A,bK A (bG (u:=(rs.getD k2 crow0).v) A A A (aG 2 A) (dG crowC (fun r=>r.v) (fun _=>A) rs crow0 (show k2<_ by omega))) A,bK A (aK A) A,bK A (aK A) A,bK A (dF 1 A A A A (aG 2 A)) A,bK A (bG (u:=(rs.getD i2 crow0).v) A A A (aG 2 A) (dG crowC (fun r=>r.v) (fun _=>A) rs crow0 (show i2<_ by omega))) A,.inl ⟨A,iH (aJ A A (fun w hm=>aY (mN ((rs.getD k2 crow0).xs) ((rs.getD i2 crow0).xs) _ _ w ((fun w hm=>((hps w (hm.holds _ (bX (i:=1) A))).at (k:=k2) (by omega))) w hm) ((fun w hm=>((hps w (hm.holds _ (bX (i:=1) A))).at (k:=i2) (by omega))) w hm) (by omega)))) hb21⟩,bK A (aK A) A,bK A (aK A) A,trivial⟩
 simp only[List.drop_succ_cons,List.drop_zero]
 refine dJ 1 A (cK (bZ 1 A (aP A (dM A A A) (dJ 1 A ?_))))
 exact cG (k2+1) true (by omega) (by omega) (cT A) (dS A)
 have hb20p:¬((((rs.getD k2 crow0).xs).length:Int)<(((rs.getD i2 crow0).xs).length:Int)):=of_decide_eq_false hb20
 have h4i:=h4 _ (dO (es:=rs) (i:=i2) (d:=crow0) (by omega))
 have h4k:=h4 _ (dO (es:=rs) (i:=k2) (d:=crow0) (by omega))
 refine cJ 23 [[],[],[0,1],[2],[3],[],[],[5,6],[7],[8],[4,9],[10],[11],[11],[11],[11],[11],[11],[11],[11],[11],[11,20],[21]] [63,64,65,66,67,68,69,70,71,72,73,74,75,76,77,78,79,80,81,82,83,84,85] [lv,jI (k2:Int),elP lv ((k2:Int).toNat*1),(rs.getD k2 crow0).v,jI (((rs.getD k2 crow0).xs).length:Int),lv,jI (i2:Int),elP lv ((i2:Int).toNat*1),(rs.getD i2 crow0).v,jI (((rs.getD i2 crow0).xs).length:Int),.bool false,.bool false,undef,undef,undef,undef,undef,undef,undef,undef,undef,.bool false,.bool true] (by kernel_rfl) A ?_ ?_
 exact⟨bK A (aK A) A,bK A (aK A) A,bK A (dF 1 A A A A (aG 2 A)) A,bK A (bG (u:=(rs.getD k2 crow0).v) A A A (aG 2 A) (dG crowC (fun r=>r.v) (fun _=>A) rs crow0 (show k2<_ by omega))) A,bK A (bC A Tryz.underlying26 A (fun w hm=>((hps w (hm.holds _ (bX (i:=1) A))).at (k:=k2) (by omega)))) A,bK A (aK A) A,bK A (aK A) A,bK A (dF 1 A A A A (aG 2 A)) A,bK A (bG (u:=(rs.getD i2 crow0).v) A A A (aG 2 A) (dG crowC (fun r=>r.v) (fun _=>A) rs crow0 (show i2<_ by omega))) A,bK A (bC A Tryz.underlying26 A (fun w hm=>((hps w (hm.holds _ (bX (i:=1) A))).at (k:=i2) (by omega)))) A,.inl ⟨A,eQ (dC A A A A) hb20⟩,bK A (aK A) A,.inr ⟨A,A⟩,.inr ⟨A,A⟩,.inr ⟨A,A⟩,.inr ⟨A,A⟩,.inr ⟨A,A⟩,.inr ⟨A,A⟩,.inr ⟨A,A⟩,.inr ⟨A,A⟩,.inr ⟨A,A⟩,bK A (aK A) A,bK A (aK A) A,trivial⟩
 simp only[List.drop_succ_cons,List.drop_zero]
 refine dJ 1 A (cK (bZ 1 A (aP A (dM A A A) (dJ 1 A ?_))))
 exact cG (k2+1) true (by omega) (by omega) (cT A) (dS A)
 refine aU 1 A (aS A ?_)
 refine bM (dI ?_)
 refine aO (bF (aC (bZ 1 A ?_)))
 refine bW (fun h22=>absurd ((h19).symm.trans h22) (by decide)) (fun h22=>?_)
 refine bR (hH A (cK (bZ 1 A (aP A (dM A A A) (dJ 1 A ?_)))))
 exact cI (i2+1) qs ov ⟨by omega,by omega,hqm⟩ (by omega) (cT A) (dS A)
 refine aU 3 A (aS A ?_)
 refine bM (dI ?_)
 refine aO (bF (aC (bZ 1 A ?_)))
 refine bW (fun h23=>?_) (fun h23=>?_)
 refine bR (aR A (bZ 3 A (aP A (dF 1 A A A A (aG 2 A)) ?_)))
 refine aP A (bG (u:=(rs.getD i2 crow0).v) A A A (aG 2 A) (dG crowC (fun r=>r.v) (fun _=>A) rs crow0 (show i2<_ by omega))) (iA (fun w hm=>((hps w (hm.holds _ (bX (i:=1) A))).at (k:=i2) (by omega)).one') (fun hov=>?_))
 refine dP A (fH A Tryz.underlying33 (by kernel_rfl) A hov) ?_
 intro g24
 refine cW (i:=1) (z:=.slice none 0 0) (bytes:=24) A A A A Tryz.underlying33 (by kernel_rfl) A A A A (aG 0 A) (fun q hq=>by rw[List.mem_singleton] at hq;subst hq;exact hov) (by first|omega|(simp only[List.length_append,List.length_cons,List.length_nil];omega)) (cH qs [(rs.getD i2 crow0)]) (dY crowC qs (rs.getD i2 crow0) _ A) (fun _=>A) ?_
 intro v25
 refine dJ 1 A (cK (bZ 1 A (aP A (dM A A A) (dJ 1 A ?_))))
 exact cI (i2+1) (qs++[(rs.getD i2 crow0)]) v25 ⟨by omega,by rw[List.length_append,List.length_singleton];omega,fun q hq=>(List.mem_append.1 hq).elim (hqm q) (fun h=>by rw[List.mem_singleton] at h;subst h;exact dO (by omega))⟩ (by omega) (cT rfl) (eJ [1,0,0] rfl)
 refine bR (hH A (cK (bZ 1 A (aP A (dM A A A) (dJ 1 A ?_)))))
 exact cI (i2+1) qs ov ⟨by omega,by omega,hqm⟩ (by omega) (cT A) (dS A)
 refine aU 1 A (aS A ?_)
 refine bM (dI ?_)
 refine aO (bF (bD 2 A ?_))
 refine aV (aZ 3 [1,0] A A (by decide) ?_)
 exact dX (post:=[rS9 26 1 ov qs crowC,bigE ps]) A A (.refl _) ⟨_,qs,A,fun w hw=>(hps w hw).sub hqm,hql,fun r hr=>h4 r (hqm r hr)⟩
 refine aU 5 A (aS A ?_)
 refine bM (dI ?_)
 refine aO (bF (bD 2 A ?_))
 refine aV (aZ 3 [1,0] A A (by decide) ?_)
 exact dX (post:=[rS9 26 1 ov qs crowC,bigE ps]) A A (.refl _) ⟨_,qs,A,fun w hw=>(hps w hw).sub hqm,hql,fun r hr=>h4 r (hqm r hr)⟩
theorem kS {w:World}{v:Value}{rs:List CRow}(h1:RdsW w v 1 rs.length (rs.flatMap crowC)) (h2:RdsAll w rs):RdsCl w v rs:=⟨h1,h2⟩
theorem yN (n:Nt) (node:Int) (w:World) (hr:RdsNt w n) (hn:NtOk n) (hnd:0≤node∧node<n.cnt) :
   Calls Tryz.prog 89 #[.agg #[.int .i64 n.ins,n.sv,n.av,n.ov],.int .i64 node] w (Ret w (fun u_ p_=>∃(ps:List HP) (cs:List CGrp),p_=[bigE ps]∧(∀w,(bigE ps).holds w→RdsW w u_ 1 cs.length (cs.flatMap cgC)∧RdsGrps w cs)∧(cs.length:Int)=node+1∧GrpsOk cs)):=by
 have hi0:=hn.i0
 have hi1:=hn.i1
 have hs1:=hn.s1
 have ha1:=hn.a1
 have ho1:=hn.o1
 have hcnt:n.cnt=1+n.ins+n.ss.length+n.gs.length:=rfl
 have hfst:n.fst=1+n.ins+n.ss.length:=rfl
 refine bN (N:=52) (args:=[.agg #[jI n.ins,n.sv,n.av,n.ov],jI node]) Tryz.func89 A A (cF ?_)
 refine cR A (cN A A) ?_
 intro b1
 refine aU 1 A (cF ?_)
 refine dP A (dH (s:=1) A Tryz.underlying26 A) ?_
 intro g2
 refine dP A (bB (z:=.slice none 0 0) (s:=1) (cs:=[.slice (some ⟨g2,0,none⟩) 0 0]) A Tryz.underlying33 A (by decide) A (by kernel_rfl) A) ?_
 intro g3
 refine dP A (bB (z:=.slice none 0 0) (s:=1) (cs:=[.slice (some ⟨g3,0,none⟩) 1 1]) A Tryz.underlying107 A (by decide) A (by kernel_rfl) A) ?_
 intro g4
 refine aU 1 A (aC (bD 1 A (bE ?_)))
 refine eE 4 [3,0,2,1] A A (by decide) ?_
 refine uK 2 A ?_
 refine oP (α:=Nat) (β:=List CGrp) (γ:=Value) (δ:=List HP) [0,1,2,4] rfl (fun k cs gv ps=>[bigE ps,rS9 33 1 gv cs cgC,nB9 b1 n]) (fun k cs gv ps=>[(5,gv),(6,jI (k:Int))]) (fun k cs gv ps=>1≤k∧(k:Int)≤node+1∧cs.length=k∧GrpsOk cs∧∀w,(bigE ps).holds w→RdsGrps w cs) (fun k cs gv ps=>node.toNat+1-k) 1 [CGrp.mk (.slice (some ⟨g3,0,none⟩) 1 1) [CRow.mk (.slice (some ⟨g2,0,none⟩) 0 0) []]] _ [rowE 26 1 (.slice (some ⟨g3,0,none⟩) 1 1) 1 ([.slice (some ⟨g2,0,none⟩) 0 0]),rowE 3 1 (.slice (some ⟨g2,0,none⟩) 0 0) 0 ([])] ⟨by omega,by omega,rfl,(fun c hc=>by rw[List.mem_singleton] at hc;subst hc;exact GrpOk.one (by simp)),fun w hw c hc=>by rw[List.mem_singleton] at hc;subst hc;exact kS (bT (aX hw cL)) (fun r hr=>by rw[List.mem_singleton] at hr;subst hr;exact bT (aX hw (dK cL)))⟩ (cT rfl) (dS rfl) ?_
 intro k cs gv ps hi5
 obtain⟨hk1,hk,hcl,hg,hs⟩:=hi5
 refine aC (aC (bZ 2 A ?_))
 refine qY A A A A A A (fun h6=>?_) (fun h6=>?_)
 refine bR (aR A (bY (fM (cF ?_))))
 refine dP A (dH (s:=1) A Tryz.underlying33 A) ?_
 intro g7
 refine aU 1 A (aC (aC (bZ 1 A (aP A (aF (cs:=[jI n.ins,n.sv,n.av,n.ov]) A A A A A (aD 3 A 0 A)) ?_))))
 refine dA A (aJ A A (fun w hm=>aY (dD n w (hr.below hm.bel) hn))) (gO A A A A A A (fun h8=>?_) (fun h8=>?_))
 refine bR (aR A (aC ?_))
 have hani:=hn.an ((k:Int)-n.fst).toNat (by omega)
 unfold LtOk at hani
 have hA:=hg.at (k:=((n.gs.getD (((k:Int)-n.fst).toNat) an0).a / 2).toNat) (by omega)
 have hB:=hg.at (k:=((n.gs.getD (((k:Int)-n.fst).toNat) an0).b / 2).toNat) (by omega)
 have hA8:=hA.len
 have hB8:=hB.len
 refine eV A 9 [0,1,2,3,4,5,6,7,8] (List.take 9 _) (List.drop 9 _) [[],[0],[],[],[3],[2,4],[1,5],[6],[]] [22,23,24,25,26,27,28,29,8] (fun i_ vs_ v_ p_=>match i_ with|0=>v_=.pointer (some ⟨b1,0+2,none⟩)∧p_=[]|1=>v_=n.av∧p_=[]|2=>v_=jI (k:Int)∧p_=[]|3=>v_=.agg #[jI n.ins,n.sv,n.av,n.ov]∧p_=[]|4=>v_=jI n.fst∧p_=[]|5=>v_=jI ((k:Int)-n.fst)∧p_=[]|6=>v_=elP n.av (((k:Int)-n.fst).toNat*2)∧p_=[]|7=>v_=.agg #[jI ((n.gs.getD (((k:Int)-n.fst).toNat) an0).a),jI ((n.gs.getD (((k:Int)-n.fst).toNat) an0).b)]∧p_=[]|8=>IsBox #[jI 0,jI 0] 67 v_ p_|_=>True) (List.take_append_drop 9 _).symm (by kernel_rfl) (by kernel_rfl) A A ?_ ?_
 refine⟨?_,?_,?_,?_,?_,?_,?_,?_,?_,trivial⟩
 intro vf pf hR
 exact fX A (aI [2] A) (aT (cQ 2 A A A))
 intro vf pf hR
 have e0:=hR 0 (by decide)
 exact eZ A (sk 22 (congrArg some e0.1) (aB _)) (aT (aN A A A (aH 3 A A)))
 intro vf pf hR
 exact fX A (aI [6] A) (aT (aK A))
 intro vf pf hR
 exact eZ A (aI [2] A) (aT (aF (cs:=[jI n.ins,n.sv,n.av,n.ov]) A A A A A (aD 3 A 0 A)))
 intro vf pf hR
 have e3:=hR 3 (by decide)
 exact eZ A (sk 25 (congrArg some e3.1) (aB _)) (aJ A A (fun w hm=>aY (dD n w (hr.below hm.bel) hn)))
 intro vf pf hR
 have e2:=hR 2 (by decide)
 have e4:=hR 4 (by decide)
 exact fX A (sk 24 (congrArg some e2.1) (sk 26 (congrArg some e4.1) (aB _))) (aT (iM A A A))
 intro vf pf hR
 have e1:=hR 1 (by decide)
 have e5:=hR 5 (by decide)
 exact eZ A (sk 23 (congrArg some e1.1) (sk 27 (congrArg some e5.1) (aB _))) (aT (dF 2 A A A A (aE hr.an)))
 intro vf pf hR
 have e6:=hR 6 (by decide)
 exact eZ A (sk 28 (congrArg some e6.1) (aB _)) (aT (eI (us:=[jI ((n.gs.getD (((k:Int)-n.fst).toNat) an0).a),jI ((n.gs.getD (((k:Int)-n.fst).toNat) an0).b)]) A A A A (aE hr.an) (by omega) A (fC anC 2 (fun _=>A) n.gs an0 (show((k:Int)-n.fst).toNat<_ by omega) A)))
 intro vf pf hR
 exact eZ A (aB _) (bP (z:=.agg #[jI 0,jI 0]) A A)
 intro vf pf hR
 have e7:=hR 7 (by decide)
 have e8:IsBox #[jI 0,jI 0] 67 (vf 8) (pf 8):=hR 8 (by decide)
 obtain⟨b9,vE8,pE8⟩:=e8
 have q0:=hR 0 (by decide)
 have q1:=hR 1 (by decide)
 have q2:=hR 2 (by decide)
 have q3:=hR 3 (by decide)
 have q4:=hR 4 (by decide)
 have q5:=hR 5 (by decide)
 have q6:=hR 6 (by decide)
 have q7:=hR 7 (by decide)
 refine cE (bO [7,6,5,4,2,1,0] _ (sk 8 (congrArg some vE8) (sk 14 A (sk 21 A (sk 29 (congrArg some e7.1) (aB _))))) A) (by simp only[pE8,vE8,q0.2,q1.2,q2.2,q3.2,q4.2,q5.2,q6.2,q7.2,fS]<;>rfl) ?_
 simp only[List.drop_succ_cons,List.drop_zero]
 refine bI (cs':=#[jI ((n.gs.getD (((k:Int)-n.fst).toNat) an0).a),jI ((n.gs.getD (((k:Int)-n.fst).toNat) an0).b)]) (i:=0) (off:=0) (us:=[jI ((n.gs.getD (((k:Int)-n.fst).toNat) an0).a),jI ((n.gs.getD (((k:Int)-n.fst).toNat) an0).b)]) A A A A A A A (aA A (aA A bA)) A A A (bR ?_)
 refine eV A 13 [0,1,2,3,4,5,6,7,8,9,10,11,12] (List.take 13 _) (List.drop 13 _) [[],[],[1],[2],[0,3],[4],[],[],[7],[8],[6,9],[10],[5,11]] [30,31,32,33,34,35,36,37,38,39,40,41,42] (fun i_ vs_ v_ p_=>match i_ with|0=>v_=gv∧p_=[]|1=>v_=.pointer (some ⟨b9,0+0,none⟩)∧p_=[]|2=>v_=jI ((n.gs.getD (((k:Int)-n.fst).toNat) an0).a)∧p_=[]|3=>v_=jI (((n.gs.getD (((k:Int)-n.fst).toNat) an0).a) / 2)∧p_=[]|4=>v_=elP gv ((((n.gs.getD (((k:Int)-n.fst).toNat) an0).a) / 2).toNat*1)∧p_=[]|5=>v_=(cs.getD ((((n.gs.getD (((k:Int)-n.fst).toNat) an0).a) / 2).toNat) cgrp0).v∧p_=[]|6=>v_=gv∧p_=[]|7=>v_=.pointer (some ⟨b9,0+1,none⟩)∧p_=[]|8=>v_=jI ((n.gs.getD (((k:Int)-n.fst).toNat) an0).b)∧p_=[]|9=>v_=jI (((n.gs.getD (((k:Int)-n.fst).toNat) an0).b) / 2)∧p_=[]|10=>v_=elP gv ((((n.gs.getD (((k:Int)-n.fst).toNat) an0).b) / 2).toNat*1)∧p_=[]|11=>v_=(cs.getD ((((n.gs.getD (((k:Int)-n.fst).toNat) an0).b) / 2).toNat) cgrp0).v∧p_=[]|12=>(fun u_ p_=>∃(ps:List HP) (us:List CRow),p_=[rS9 26 1 u_ us crowC,bigE ps]∧(∀w,(bigE ps).holds w→RdsAll w us)∧us.length≤7∧∀r∈us,r.xs.length≤4) v_ p_|_=>True) (List.take_append_drop 13 _).symm (by kernel_rfl) (by kernel_rfl) A A ?_ ?_
 refine⟨?_,?_,?_,?_,?_,?_,?_,?_,?_,?_,?_,?_,?_,trivial⟩
 intro vf pf hR
 exact fX A (aI [5] A) (aT (aK A))
 intro vf pf hR
 exact fX A (aI [8] A) (aT (cQ 0 A A A))
 intro vf pf hR
 have e1:=hR 1 (by decide)
 exact eZ A (sk 31 (congrArg some e1.1) (aB _)) (aT (aN A A A (aH 0 A A)))
 intro vf pf hR
 have e2:=hR 2 (by decide)
 exact fX A (sk 32 (congrArg some e2.1) (aB _)) (aT (fF A A A (by refine⟨?_,?_,?_⟩<;>omega)))
 intro vf pf hR
 have e0:=hR 0 (by decide)
 have e3:=hR 3 (by decide)
 exact eZ A (sk 30 (congrArg some e0.1) (sk 33 (congrArg some e3.1) (aB _))) (aT (dF 1 A A A A (aG 3 A)))
 intro vf pf hR
 have e4:=hR 4 (by decide)
 exact eZ A (sk 34 (congrArg some e4.1) (aB _)) (aT (bG (u:=(cs.getD ((((n.gs.getD (((k:Int)-n.fst).toNat) an0).a) / 2).toNat) cgrp0).v) A A A (aG 3 A) (dG cgC (fun r=>r.v) (fun _=>A) cs cgrp0 (show(((n.gs.getD (((k:Int)-n.fst).toNat) an0).a) / 2).toNat<_ by omega))))
 intro vf pf hR
 exact fX A (aI [5] A) (aT (aK A))
 intro vf pf hR
 exact fX A (aI [8] A) (aT (cQ 1 A A A))
 intro vf pf hR
 have e7:=hR 7 (by decide)
 exact eZ A (sk 37 (congrArg some e7.1) (aB _)) (aT (aN A A A (aH 0 A A)))
 intro vf pf hR
 have e8:=hR 8 (by decide)
 exact fX A (sk 38 (congrArg some e8.1) (aB _)) (aT (fF A A A (by refine⟨?_,?_,?_⟩<;>omega)))
 intro vf pf hR
 have e6:=hR 6 (by decide)
 have e9:=hR 9 (by decide)
 exact eZ A (sk 36 (congrArg some e6.1) (sk 39 (congrArg some e9.1) (aB _))) (aT (dF 1 A A A A (aG 3 A)))
 intro vf pf hR
 have e10:=hR 10 (by decide)
 exact eZ A (sk 40 (congrArg some e10.1) (aB _)) (aT (bG (u:=(cs.getD ((((n.gs.getD (((k:Int)-n.fst).toNat) an0).b) / 2).toNat) cgrp0).v) A A A (aG 3 A) (dG cgC (fun r=>r.v) (fun _=>A) cs cgrp0 (show(((n.gs.getD (((k:Int)-n.fst).toNat) an0).b) / 2).toNat<_ by omega))))
 intro vf pf hR
 have e5:=hR 5 (by decide)
 have e11:=hR 11 (by decide)
 exact eZ A (sk 35 (congrArg some e5.1) (sk 41 (congrArg some e11.1) (aB _))) (aJ A A (fun w hm=>wF (cs.getD ((((n.gs.getD (((k:Int)-n.fst).toNat) an0).a) / 2).toNat) cgrp0).rs (cs.getD ((((n.gs.getD (((k:Int)-n.fst).toNat) an0).b) / 2).toNat) cgrp0).rs _ _ w ((hs w (hm.holds _ (bX (i:=2) A))).at (k:=((((n.gs.getD (((k:Int)-n.fst).toNat) an0).a) / 2).toNat)) (by omega)) ((hs w (hm.holds _ (bX (i:=2) A))).at (k:=((((n.gs.getD (((k:Int)-n.fst).toNat) an0).b) / 2).toNat)) (by omega)) hA.four hB.four hA8 hB8))
 intro vf pf hR
 have e12:(fun u_ p_=>∃(ps:List HP) (us:List CRow),p_=[rS9 26 1 u_ us crowC,bigE ps]∧(∀w,(bigE ps).holds w→RdsAll w us)∧us.length≤7∧∀r∈us,r.xs.length≤4) (vf 12) (pf 12):=hR 12 (by decide)
 obtain⟨v10,vE12⟩:∃x,vf 12=x:=⟨_,rfl⟩
 obtain⟨p11,pE12⟩:∃x,pf 12=x:=⟨_,rfl⟩
 have R12:=e12
 rw[vE12,pE12] at R12
 obtain⟨qs,us,rfl,hq,hul,hu4⟩:=R12
 have q0:=hR 0 (by decide)
 have q1:=hR 1 (by decide)
 have q2:=hR 2 (by decide)
 have q3:=hR 3 (by decide)
 have q4:=hR 4 (by decide)
 have q5:=hR 5 (by decide)
 have q6:=hR 6 (by decide)
 have q7:=hR 7 (by decide)
 have q8:=hR 8 (by decide)
 have q9:=hR 9 (by decide)
 have q10:=hR 10 (by decide)
 have q11:=hR 11 (by decide)
 refine cE (bO [21,14,8,7,6,5,4,2,1,0] _ (sk 42 (congrArg some vE12) (aB _)) A) (by simp only[pE12,vE12,q0.2,q1.2,q2.2,q3.2,q4.2,q5.2,q6.2,q7.2,q8.2,q9.2,q10.2,q11.2,fS]<;>rfl) ?_
 simp only[List.drop_succ_cons,List.drop_zero]
 refine aU 1 A (bZ 3 A ?_)
 refine dP A (bB (z:=jI 0) (s:=1) (cs:=(mI [(k:Int)])) A Tryz.underlying26 A (by decide) A (by kernel_rfl) A) ?_
 intro g13
 refine dP A (bB (z:=.slice none 0 0) (s:=1) (cs:=[.slice (some ⟨g13,0,none⟩) 1 1]) A Tryz.underlying33 A (by decide) A (by kernel_rfl) A) ?_
 intro g14
 refine cW (i:=2) (z:=.slice none 0 0) (bytes:=24) (n':=(us++[CRow.mk (.slice (some ⟨g13,0,none⟩) 1 1) [(k:Int)]]).length) (xs':=((us++[CRow.mk (.slice (some ⟨g13,0,none⟩) 1 1) [(k:Int)]]).flatMap crowC)) A A A A Tryz.underlying33 (by kernel_rfl) A A A A (aG 0 A) (by simp[Value.oneCell']) (by first|omega|(simp;omega)) (cH us [CRow.mk (.slice (some ⟨g13,0,none⟩) 1 1) [(k:Int)]]) (by rw[List.flatMap_append];rfl) (fun _=>A) ?_
 intro v15
 refine dP A (iV A Tryz.underlying107 (by kernel_rfl) A (fun w hm=>(aG 2 A w hm).one)) ?_
 intro g16
 refine dZ (i:=3) A (fun ho17=>?_)
 refine cW (i:=8) (z:=.slice none 0 0) (bytes:=24) (n':=(cs++[(CGrp.mk v15 (us++[CRow.mk (.slice (some ⟨g13,0,none⟩) 1 1) [(k:Int)]]))]).length) (xs':=((cs++[(CGrp.mk v15 (us++[CRow.mk (.slice (some ⟨g13,0,none⟩) 1 1) [(k:Int)]]))]).flatMap cgC)) A A A A Tryz.underlying107 (by kernel_rfl) A A A A (aG 0 A) (fun q hq=>by rw[List.mem_singleton] at hq;subst hq;exact ho17) (by omega) (cH cs [(CGrp.mk v15 (us++[CRow.mk (.slice (some ⟨g13,0,none⟩) 1 1) [(k:Int)]]))]) (by rw[List.flatMap_append];rfl) (fun _=>A) ?_
 intro v18
 refine dJ 1 A (cK (bZ 1 A (aP A (dM A A A) (dJ 1 A ?_))))
 refine aZ 10 [9,8,4,2,3,7] A A (by decide) ?_
 refine cB 4 A ?_
 exact eD (k+1) (cs++[(CGrp.mk v15 (us++[CRow.mk (.slice (some ⟨g13,0,none⟩) 1 1) [(k:Int)]]))]) v18 [bigE ps,rowE 26 1 v15 ((us++[CRow.mk (.slice (some ⟨g13,0,none⟩) 1 1) [(k:Int)]]).length) ((us++[CRow.mk (.slice (some ⟨g13,0,none⟩) 1 1) [(k:Int)]]).flatMap crowC),rowE 3 1 (.slice (some ⟨g13,0,none⟩) 1 1) 1 (mI [(k:Int)]),bigE qs] ⟨by omega,by omega,by rw[List.length_append,List.length_singleton];omega,hg.app (GrpOk.more hul hu4),fun w hw=>(hs w (aX hw cL)).app (kS (bT (aX hw (dK cL))) (fun r hr=>(List.mem_append.1 hr).elim (fun h=>hq w (aX hw (dK (dK (dK cL)))) r h) (fun h=>by rw[List.mem_singleton] at h;subst h;exact bT (aX hw (dK (dK cL))))))⟩ (by omega) (cT rfl) (dS rfl)
 refine bR (aS A (bY (bZ 3 A ?_)))
 refine dP A (bB (z:=jI 0) (s:=1) (cs:=(mI [(k:Int)])) A Tryz.underlying26 A (by decide) A (by kernel_rfl) A) ?_
 intro g19
 refine dP A (bB (z:=.slice none 0 0) (s:=1) (cs:=[.slice (some ⟨g19,0,none⟩) 1 1]) A Tryz.underlying33 A (by decide) A (by kernel_rfl) A) ?_
 intro g20
 refine cW (i:=2) (z:=.slice none 0 0) (bytes:=24) (n':=([CRow.mk (.slice (some ⟨g19,0,none⟩) 1 1) [(k:Int)]]).length) (xs':=(([CRow.mk (.slice (some ⟨g19,0,none⟩) 1 1) [(k:Int)]]).flatMap crowC)) A A A A Tryz.underlying33 (by kernel_rfl) A A A A (aG 0 A) (by simp[Value.oneCell']) (by first|omega|(simp;omega)) (Nat.zero_add _) (List.nil_append _) (fun _=>A) ?_
 intro v21
 refine dP A (iV A Tryz.underlying107 (by kernel_rfl) A (fun w hm=>(aG 2 A w hm).one)) ?_
 intro g22
 refine dZ (i:=3) A (fun ho23=>?_)
 refine cW (i:=5) (z:=.slice none 0 0) (bytes:=24) (n':=(cs++[(CGrp.mk v21 ([CRow.mk (.slice (some ⟨g19,0,none⟩) 1 1) [(k:Int)]]))]).length) (xs':=((cs++[(CGrp.mk v21 ([CRow.mk (.slice (some ⟨g19,0,none⟩) 1 1) [(k:Int)]]))]).flatMap cgC)) A A A A Tryz.underlying107 (by kernel_rfl) A A A A (aG 0 A) (fun q hq=>by rw[List.mem_singleton] at hq;subst hq;exact ho23) (by omega) (cH cs [(CGrp.mk v21 ([CRow.mk (.slice (some ⟨g19,0,none⟩) 1 1) [(k:Int)]]))]) (by rw[List.flatMap_append];rfl) (fun _=>A) ?_
 intro v24
 refine dJ 1 A (cK (bZ 1 A (aP A (dM A A A) (dJ 1 A ?_))))
 refine aZ 7 [6,5,2,3,4] A A (by decide) ?_
 refine cB 3 A ?_
 exact eD (k+1) (cs++[(CGrp.mk v21 ([CRow.mk (.slice (some ⟨g19,0,none⟩) 1 1) [(k:Int)]]))]) v24 [bigE ps,rowE 26 1 v21 (([CRow.mk (.slice (some ⟨g19,0,none⟩) 1 1) [(k:Int)]]).length) (([CRow.mk (.slice (some ⟨g19,0,none⟩) 1 1) [(k:Int)]]).flatMap crowC),rowE 3 1 (.slice (some ⟨g19,0,none⟩) 1 1) 1 (mI [(k:Int)])] ⟨by omega,by omega,by rw[List.length_append,List.length_singleton];omega,hg.app (GrpOk.one (by simp)),fun w hw=>(hs w (aX hw cL)).app (kS (bT (aX hw (dK cL))) (fun r hr=>by rw[List.mem_singleton] at hr;subst hr;exact bT (aX hw (dK (dK cL)))))⟩ (by omega) (cT rfl) (dS rfl)
 refine bR (aS A ?_)
 refine bM (dI ?_)
 refine aO (bF (bD 2 A ?_))
 refine aV (aZ 3 [1,0] A A (by decide) ?_)
 refine cB 2 A ?_
 exact dX (post:=[bigE [bigE ps,rS9 33 1 gv cs cgC]]) A A (.refl _) ⟨_,cs,A,fun w hw=>⟨bT (aX hw (dK cL)),hs w (aX hw cL)⟩,by omega,hg⟩
theorem Ch (n:Nt) (node:Int) (w:World) (hr:RdsNt w n) (hn:NtOk n) (hnd:0≤node∧node<n.cnt) :
   Calls Tryz.prog 76 #[.agg #[.int .i64 n.ins,n.sv,n.av,n.ov],.int .i64 node] w (Ret w (fun u_ p_=>∃(ps:List HP) (us:List CRow),p_=[bigE ps]∧(∀w,(bigE ps).holds w→RdsCl w u_ us)∧GrpOk us)):=by
 have hi0:=hn.i0
 have hi1:=hn.i1
 have hs1:=hn.s1
 have ha1:=hn.a1
 have ho1:=hn.o1
 have hcnt:n.cnt=1+n.ins+n.ss.length+n.gs.length:=rfl
 have hfst:n.fst=1+n.ins+n.ss.length:=rfl
 refine bN (N:=48) (args:=[.agg #[jI n.ins,n.sv,n.av,n.ov],jI node]) Tryz.func76 A A (cF ?_)
 refine cR A (cN A A) ?_
 intro b1
 refine aU 1 A (cF ?_)
 refine dP A (dH (s:=1) A Tryz.underlying33 A) ?_
 intro g2
 refine aU 1 A (eP (aP A (aF (cs:=[jI n.ins,n.sv,n.av,n.ov]) A A A A A (aD 1 A 0 A)) ?_))
 refine dA A (aJ A A (fun w hm=>aY (eA n w (hr.below hm.bel) hn))) (aM 3 A ?_)
 refine bQ A A A A A A (fun h3=>absurd h3 (by omega)) (fun h3=>?_)
 refine aM 3 A (aP A (aF (cs:=[jI n.ins,n.sv,n.av,n.ov]) A A A A A (aD 1 A 0 A)) ?_)
 refine dA A (aJ A A (fun w hm=>aY (cS n w (hr.below hm.bel) hn))) (gO A A A A A A (fun h4=>absurd h4 (by omega)) (fun h4=>?_))
 refine aU 1 A (aS A (bY (cF (aP A (aF (cs:=[jI n.ins,n.sv,n.av,n.ov]) A A A A A (aD 1 A 0 A)) (aM 1 A ?_)))))
 refine eB A A A (aJ A A (fun w hm=>yN n node w (hr.below hm.bel) hn hnd)) ?_
 intro v5 p6 R7
 obtain⟨as_,cs,rfl,hs,hcl,hg⟩:=R7
 have hgn:=hg.at (k:=node.toNat) (by omega)
 have hgl:=hgn.len
 refine aU 1 A (aC (bD 1 A (bE ?_)))
 refine fE _ lT ?_
 refine oP (α:=Nat) (β:=List CRow) (γ:=Value) (δ:=List HP) [0,1,2,4,6,21] A (fun i qs ov ps=>[bigE ps,bigE as_,rS9 26 1 ov qs crowC,nB9 b1 n]) (fun i qs ov ps=>[(5,ov),(7,jI (i:Int))]) (fun i qs ov ps=>i≤(cs.getD (node.toNat) cgrp0).rs.length∧qs.length=i∧(∀r∈qs,r.xs.length≤4)∧∀w,(bigE ps).holds w→RdsAll w qs) (fun i qs ov ps=>(cs.getD (node.toNat) cgrp0).rs.length-i) 0 [] _ [] ⟨Nat.zero_le _,A,(fun r hr=>by cases hr),fun w _=>RdsAll.nil w⟩ (cT A) (dS A) ?_
 intro i qs ov ps hi8
 obtain⟨hi,hql,hq4,hps⟩:=hi8
 refine aC (aC (bZ 3 A ?_))
 refine aP A (dF 1 A A A A (fun w hm=>(hs w (hm.holds _ (bX (i:=1) A))).1)) (aP A (bG (u:=(cs.getD (node.toNat) cgrp0).v) A A A (fun w hm=>(hs w (hm.holds _ (bX (i:=1) A))).1) (dG cgC (fun r=>r.v) (fun _=>A) cs cgrp0 (show node.toNat<_ by omega))) ?_)
 refine aP A (bC A Tryz.underlying33 A (fun w hm=>((hs w (hm.holds _ (bX (i:=1) A))).2.at (k:=node.toNat) (by omega)).row)) (bQ A A A A A A (fun h9=>?_) (fun h9=>?_))
 refine bR (aR A (bY (fM (bZ 1 A ?_))))
 refine dP A (dH (s:=1) A Tryz.underlying26 A) ?_
 intro g10
 refine aM 2 A (aP A (dF 1 A A A A (fun w hm=>(hs w (hm.holds _ (bX (i:=2) A))).1)) ?_)
 refine aP A (bG (u:=(cs.getD (node.toNat) cgrp0).v) A A A (fun w hm=>(hs w (hm.holds _ (bX (i:=2) A))).1) (dG cgC (fun r=>r.v) (fun _=>A) cs cgrp0 (show node.toNat<_ by omega))) (aM 1 A ?_)
 refine aP A (dF 1 A A A A (fun w hm=>((hs w (hm.holds _ (bX (i:=2) A))).2.at (k:=node.toNat) (by omega)).row)) (aP A (bG (u:=(((cs.getD (node.toNat) cgrp0).rs).getD i crow0).v) A A A (fun w hm=>((hs w (hm.holds _ (bX (i:=2) A))).2.at (k:=node.toNat) (by omega)).row) (dG crowC (fun r=>r.v) (fun _=>A) ((cs.getD (node.toNat) cgrp0).rs) crow0 (show i<_ by omega))) ?_)
 have h4i:=hgn.four _ (dO (es:=(cs.getD (node.toNat) cgrp0).rs) (i:=i) (d:=crow0) (by omega))
 refine cW (i:=0) (z:=jI 0) (bytes:=8) (n':=((((cs.getD (node.toNat) cgrp0).rs).getD i crow0).xs).length) (xs':=(((((cs.getD (node.toNat) cgrp0).rs).getD i crow0).xs).map (Value.int .i64))) A A A A Tryz.underlying26 (by kernel_rfl) A A A A (fun w hm=>((hs w (hm.holds _ (bX (i:=2) A))).2.at (k:=node.toNat) (by omega)).at (k:=i) (by omega)) (cO _) (by first|omega|(simp;done)|(simp;omega)) (Nat.zero_add _) (List.nil_append _) (fun _=>A) ?_
 intro v11
 refine dP A (iV A Tryz.underlying33 (by kernel_rfl) A (fun w hm=>(aG 0 A w hm).one)) ?_
 intro g12
 refine dZ (i:=1) A (fun ho13=>?_)
 refine cW (i:=4) (z:=.slice none 0 0) (bytes:=24) A A A A Tryz.underlying33 (by kernel_rfl) A A A A (aG 0 A) (aA ho13 bA) (by first|omega|(simp only[List.length_append,List.length_cons,List.length_nil];omega)) (cH qs [(CRow.mk v11 (((cs.getD (node.toNat) cgrp0).rs).getD i crow0).xs)]) (dY crowC qs (CRow.mk v11 (((cs.getD (node.toNat) cgrp0).rs).getD i crow0).xs) _ A) (fun _=>A) ?_
 intro v14
 refine dJ 1 A (cK (bZ 1 A (aP A (dM A A A) (dJ 1 A ?_))))
 refine aZ 6 [5,4,3,1,2] A A (by decide) ?_
 refine cB 2 A ?_
 exact eD (i+1) (qs++[(CRow.mk v11 (((cs.getD (node.toNat) cgrp0).rs).getD i crow0).xs)]) v14 [bigE ps,rowE 3 1 v11 (((((cs.getD (node.toNat) cgrp0).rs).getD i crow0).xs).length) (((((cs.getD (node.toNat) cgrp0).rs).getD i crow0).xs).map (Value.int .i64))] ⟨by omega,by rw[List.length_append,List.length_singleton];omega,(fun r hr=>(List.mem_append.1 hr).elim (hq4 r) (fun h=>by rw[List.mem_singleton] at h;subst h;exact h4i)),fun w hw=>RdsAll.cons (u:=CRow.mk v11 ((((cs.getD (node.toNat) cgrp0).rs).getD i crow0).xs)) (hps w (aX hw cL)) (bT (aX hw (dK cL))) (fun q hq=>(List.mem_append.1 hq).elim .inr (fun h=>.inl (List.mem_singleton.1 h)))⟩ (by omega) (cT rfl) (dS rfl)
 refine bR (aS A ?_)
 refine bM (dI ?_)
 refine aO (bF (bD 2 A ?_))
 refine aV (aZ 4 [2,0] A A (by decide) ?_)
 refine cB 2 A ?_
 exact dX (post:=[bigE [bigE ps,rS9 26 1 ov qs crowC]]) A A (.refl _) ⟨_,qs,A,fun w hw=>kS (bT (aX hw (dK cL))) (hps w (aX hw cL)),⟨by have:=hgn.pos;omega,by omega,hq4⟩⟩
theorem Bm {a b c:Int}(h1:b≤a) (h2:a≤c) (w:World):Calls Tryz.prog 39 #[.int .i64 a,.int .i64 b,.int .i64 c] w (Ans w (.bool true)):=by
  rw[←wI h1 h2];exact gP (Bn _ _ _ w)
structure Tab where
  N:Int
  B:Int
def pn_o (n:Int):Nat:=2 ^ n.toNat
def qn (n:Int):Int:=2 ^ (2 ^ n.toNat)
theorem Ed {n:Int}(h:0≤n∧n≤4):n=0∨n=1∨n=2∨n=3∨n=4:=by omega
theorem lL {n:Int}(h:0≤n∧n≤4):1≤pn_o n∧pn_o n≤16:=by
  rcases Ed h with rfl|rfl|rfl|rfl|rfl<;>decide
theorem oL {n:Int}(h:0≤n∧n≤4):2≤qn n∧qn n≤65536:=by
  rcases Ed h with rfl|rfl|rfl|rfl|rfl<;>decide
theorem Ci {n:Int}(h:0≤n∧n≤4):IntKind.i64.wrap (1*2 ^ n.toNat)=(pn_o n:Int):=by
  rcases Ed h with rfl|rfl|rfl|rfl|rfl<;>exact IntWalk.i64_in _ (by decide)
end Go.Proofs.YthmbefiklpoghaaGreat
