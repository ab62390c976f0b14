/- Texts of the law FnEqualMeans, part 3: what it uses. -/
import Derived.Test.YthmbefiklpoghaaGreatEqm2
set_option linter.unusedVariables false
set_option linter.unusedSimpArgs false
set_option maxHeartbeats 4000000
set_option maxRecDepth 100000
namespace Go.Proofs.YthmbefiklpoghaaGreat
open Go.RowKit Go.ChangeShapes
open Go.RowKit
theorem kY (n:Nt) (w:World) (hr:RdsNt w n) (qs1:n.ss.length≤20) (qa1:n.gs.length≤400) (qo1:n.os.length≤40) (q4:∀s∈n.ss,s.xs.length≤4) :
   Calls Tryz.prog 36 #[.agg #[.int .i64 n.ins,n.sv,n.av,n.ov]] w (Ret w (fun u_ p_=>∃(ps:List HP) (m:Nt),u_=m.agg∧p_=[rS9 46 3 m.sv m.ss sqC,rS9 67 2 m.av m.gs anC,rI9 3 m.ov m.os,bigE ps]∧(∀w,(bigE ps).holds w→RdsSqs w m.ss)∧(m.sv.oneCell'=true∧m.av.oneCell'=true∧m.ov.oneCell'=true)∧CopyOf n m)):=by
 have hcnt:n.cnt=1+n.ins+n.ss.length+n.gs.length:=rfl
 have hfst:n.fst=1+n.ins+n.ss.length:=rfl
 refine bN (N:=17) (args:=[.agg #[jI n.ins,n.sv,n.av,n.ov]]) Tryz.func36 A A (cF ?_)
 refine cR A (cN A A) ?_
 intro b1
 refine cR A (bP (z:=.agg #[jI 0,.slice none 0 0,.slice none 0 0,.slice none 0 0]) A A) ?_
 intro b2
 refine bR (aC ?_)
 refine eF (l:=[eB9 b2,nB9 b1 n]) A 13 [0,1,2,3,4,5,6,7,8,9,10,11,12] (List.take 13 _) (List.drop 13 _) [[],[0],[],[2],[3],[],[],[6],[5,7],[],[],[10],[9,11]] [some 3,some 4,some 5,some 6,some 7,some 8,some 9,some 10,some 11,some 12,some 13,some 14,some 15] (fun i_ vs_ v_ p_=>match i_ with|0=>v_=.pointer (some ⟨b1,0+0,none⟩)∧p_=[]|1=>v_=jI n.ins∧p_=[]|2=>v_=.pointer (some ⟨b1,0+1,none⟩)∧p_=[]|3=>v_=n.sv∧p_=[]|4=>(fun u_ p_=>∃(ps:List HP) (zs:List Sq),p_=[rS9 46 3 u_ zs sqC,bigE ps]∧(∀w,(bigE ps).holds w→RdsSqs w zs)∧zs.map sqv=n.ss.map sqv) v_ p_|5=>IsRow 67 2 0 ([]) v_ p_|6=>v_=.pointer (some ⟨b1,0+2,none⟩)∧p_=[]|7=>v_=n.av∧p_=[]|8=>(∃pm_,p_=[pm_]∧(fun u_ p_=>p_=rS9 67 2 u_ n.gs anC) v_ pm_)|9=>IsRow 3 1 0 ([]) v_ p_|10=>v_=.pointer (some ⟨b1,0+3,none⟩)∧p_=[]|11=>v_=n.ov∧p_=[]|12=>(∃pm_,p_=[pm_]∧(fun u_ p_=>p_=rI9 3 u_ n.os) v_ pm_)|_=>True) [[],[0],[],[2],[3],[],[],[6],[7],[],[],[10],[11]] [none,none,none,none,none,none,none,none,some 5,none,none,none,some 9] [] [0,1,2,3,4,6,7,8,10,11,12] 15 (List.take_append_drop 13 _).symm (by kernel_rfl) (by kernel_rfl) (by kernel_rfl) A A ?_ ?_
 refine⟨?_,?_,?_,?_,?_,?_,?_,?_,?_,?_,?_,?_,?_,trivial⟩
 intro vf pf hmu hR
 refine bL [] [] A (bH (aI [1] A) ?_)
 exact aT (cQ 0 A A A)
 intro vf pf hmu hR
 have e0:=hR 0 (by decide)
 refine bL [0] [0] A (aW (sk 3 (congrArg some e0.1) (aB _)) (List.sublist_append_right _ _) ?_)
 exact aT (aN A A A (aH 1 A A))
 intro vf pf hmu hR
 refine bL [] [] A (bH (aI [1] A) ?_)
 exact aT (cQ 1 A A A)
 intro vf pf hmu hR
 have e2:=hR 2 (by decide)
 refine bL [2] [2] A (aW (sk 5 (congrArg some e2.1) (aB _)) (List.sublist_append_right _ _) ?_)
 exact aT (aN A A A (aH 1 A A))
 intro vf pf hmu hR
 have e3:=hR 3 (by decide)
 refine bL [3] [3] A (aW (sk 6 (congrArg some e3.1) (aB _)) (List.sublist_append_right _ _) ?_)
 exact aJ A A (fun w hm=>lC n.ss _ w (hr.sq.below hm.bel) (fun s hs=>(hr.xs s hs).below hm.bel) qs1 q4)
 intro vf pf hmu hR
 refine bL [] [] A (aW (aB _) (List.sublist_append_right _ _) ?_)
 exact dH (s:=2) A Tryz.underlying25 A
 intro vf pf hmu hR
 refine bL [] [] A (bH (aI [1] A) ?_)
 exact aT (cQ 2 A A A)
 intro vf pf hmu hR
 have e6:=hR 6 (by decide)
 refine bL [6] [6] A (aW (sk 9 (congrArg some e6.1) (aB _)) (List.sublist_append_right _ _) ?_)
 exact aT (aN A A A (aH 1 A A))
 intro vf pf hmu hR
 have e5:IsRow 67 2 0 ([]) (vf 5) (pf 5):=hR 5 (by decide)
 obtain⟨g6,vE5,pE5⟩:=e5
 have e7:=hR 7 (by decide)
 refine Or.inl ⟨A,?_⟩
 show RunM _ _ _ (pf 5) (([7]:List Nat).flatMap pf++_) (envOf3 _ vf [5,7]++_) _ _
 rw[pE5];rw[vE5]
 exact cV (sk 8 (congrArg some vE5) (sk 10 (congrArg some e7.1) (aB _))) (by simp only[e7.2,fS]<;>rfl) (gV (d:=0) (z:=.agg #[jI 0,jI 0]) (bytes:=16) (n':=n.gs.length) (xs':=(n.gs.flatMap anC)) A Tryz.underlying25 A A A A (aE hr.an) (kZ anC n.gs (fun r u hu=>by simp[anC] at hu;first|(subst hu;rfl)|(rcases hu with rfl|rfl<;>rfl)|(rcases hu with rfl|rfl|rfl<;>rfl)|(rcases hu with rfl|rfl|rfl|rfl<;>rfl))) (by first|omega|(simp only[List.length_take,List.length_drop];omega)) (Nat.zero_add _) (List.nil_append _))
 intro vf pf hmu hR
 refine bL [] [] A (aW (aB _) (List.sublist_append_right _ _) ?_)
 exact dH (s:=1) A Tryz.underlying26 A
 intro vf pf hmu hR
 refine bL [] [] A (bH (aI [1] A) ?_)
 exact aT (cQ 3 A A A)
 intro vf pf hmu hR
 have e10:=hR 10 (by decide)
 refine bL [10] [10] A (aW (sk 13 (congrArg some e10.1) (aB _)) (List.sublist_append_right _ _) ?_)
 exact aT (aN A A A (aH 1 A A))
 intro vf pf hmu hR
 have e9:IsRow 3 1 0 ([]) (vf 9) (pf 9):=hR 9 (by decide)
 obtain⟨g10,vE9,pE9⟩:=e9
 have e11:=hR 11 (by decide)
 refine Or.inl ⟨A,?_⟩
 show RunM _ _ _ (pf 9) (([11]:List Nat).flatMap pf++_) (envOf3 _ vf [9,11]++_) _ _
 rw[pE9];rw[vE9]
 exact cV (sk 12 (congrArg some vE9) (sk 14 (congrArg some e11.1) (aB _))) (by simp only[e11.2,fS]<;>rfl) (gV (d:=0) (z:=jI 0) (bytes:=8) (n':=n.os.length) (xs':=(mI n.os)) A Tryz.underlying26 A A A A (aE hr.ou) (cO _) (by first|omega|(simp;done)|(simp;omega)) (Nat.zero_add _) (List.nil_append _))
 intro vf pf hmu hR
 have e1:=hR 1 (by decide)
 have e4:(fun u_ p_=>∃(ps:List HP) (zs:List Sq),p_=[rS9 46 3 u_ zs sqC,bigE ps]∧(∀w,(bigE ps).holds w→RdsSqs w zs)∧zs.map sqv=n.ss.map sqv) (vf 4) (pf 4):=hR 4 (by decide)
 obtain⟨v3,vE4⟩:∃x,vf 4=x:=⟨_,rfl⟩
 obtain⟨p4,pE4⟩:∃x,pf 4=x:=⟨_,rfl⟩
 have R5:=e4
 rw[vE4,pE4] at R5
 obtain⟨ps,zs,rfl,hps,hzs⟩:=R5
 have e5:IsRow 67 2 0 ([]) (vf 5) (pf 5):=hR 5 (by decide)
 obtain⟨g6,vE5,pE5⟩:=e5
 have e8:(∃pm_,(pf 8)=[pm_]∧(fun u_ p_=>p_=rS9 67 2 u_ n.gs anC) (vf 8) pm_):=hR 8 (by decide)
 obtain⟨p8,pE8,R9⟩:=e8
 obtain⟨v7,vE8⟩:∃x,vf 8=x:=⟨_,rfl⟩
 rw[vE8] at R9
 subst R9
 have e9:IsRow 3 1 0 ([]) (vf 9) (pf 9):=hR 9 (by decide)
 obtain⟨g10,vE9,pE9⟩:=e9
 have e12:(∃pm_,(pf 12)=[pm_]∧(fun u_ p_=>p_=rI9 3 u_ n.os) (vf 12) pm_):=hR 12 (by decide)
 obtain⟨p12,pE12,R13⟩:=e12
 obtain⟨v11,vE12⟩:∃x,vf 12=x:=⟨_,rfl⟩
 rw[vE12] at R13
 subst R13
 have q0:=hR 0 (by decide)
 have q1:=hR 1 (by decide)
 have q2:=hR 2 (by decide)
 have q3:=hR 3 (by decide)
 have q6:=hR 6 (by decide)
 have q7:=hR 7 (by decide)
 have q10:=hR 10 (by decide)
 have q11:=hR 11 (by decide)
 refine cE (bO [2,1,0] _ (sk 4 (congrArg some e1.1) (sk 7 (congrArg some vE4) (sk 11 (congrArg some vE8) (sk 15 (congrArg some vE12) (aB _))))) A) (by simp only[pE4,vE4,pE8,vE8,pE12,vE12,q0.2,q1.2,q2.2,q3.2,q6.2,q7.2,q10.2,q11.2,fS]<;>rfl) ?_
 simp only[List.drop_succ_cons,List.drop_zero]
 refine aP A (kR (cs:=#[jI n.ins,v3,v7,v11]) A A (fun w hm=>zB n.ins v3 v7 v11 ((aG 0 A w hm).one) ((aG 2 A w hm).one) ((aG 3 A w hm).one))) (dZ (i:=3) A (fun ho14=>?_))
 refine dZ (i:=2) A (fun ho15=>?_)
 refine dZ (i:=0) A (fun ho16=>?_)
 refine bI (cs':=#[jI n.ins,v3,v7,v11]) (i:=4) (off:=0) (us:=[jI n.ins,v3,v7,v11]) A A A A A A A (aA A (aA ho16 (aA ho15 (aA ho14 bA)))) A A A (bR ?_)
 refine aV (cY (fun w hm=>(aG 0 A w hm).one) (fun ho1=>?_))
 refine cY (fun w hm=>(aG 3 A w hm).one) (fun ho2=>?_)
 refine cY (fun w hm=>(aG 2 A w hm).one) (fun ho3=>?_)
 refine aZ 6 [5,4,1,3,2,0] A A (by decide) ?_
 exact bV (rs:=[.cell 2 28]) (vs:=[.agg #[jI n.ins,v3,v7,v11]]) (post:=[rS9 46 3 v3 zs sqC,rS9 67 2 v7 n.gs anC,rI9 3 v11 n.os,bigE ps]) A ⟨⟨b2,0,[jI n.ins,v3,v7,v11],A,A,by kernel_rfl,by kernel_rfl,aD 4 A 0 A⟩,trivial⟩ A (eJ [0,0,0,0] A) ⟨_,(Nt.mk n.ins v3 v7 v11 zs n.gs n.os),A,A,hps,⟨ho1,ho3,ho2⟩,⟨A,A,A,hzs⟩⟩
theorem Ret.conv {w:World}{R R':Value→List HP→Prop}(h:∀u p,R u p→∃q,R' u q∧∀w0 w1,Mem w0 p w1→Mem w0 q w1):∀e w',Ret w R e w'→Ret w R' e w':=fun e w' ⟨v,post,h1,h2,h3⟩=>by
  obtain⟨q,h4,h5⟩:=h v post h2
  exact⟨v,q,h1,h4,h5 _ _ h3⟩
theorem Bi {w0 w:World}{a b c d:HP}(h:Mem w0 [a,b,c,d] w):Mem w0 [a,b,bigE [d,c]] w:=by
  have h1:Mem w0 ([d,c]++[a,b]) w:=h.perm (by exact(List.perm_append_comm (l₁:=[a,b]) (l₂:=[c,d])).trans (.swap _ _ _))
  exact h1.big.perm (by exact(List.perm_append_comm (l₁:=[bigE [d,c]]) (l₂:=[a,b])))
theorem uH (n:Nt) (w:World) (hr:RdsNt w n) (qs1:n.ss.length≤20) (qa1:n.gs.length≤400) (qo1:n.os.length≤40) (q4:∀s∈n.ss,s.xs.length≤4):Calls Tryz.prog 36 #[.agg #[.int .i64 n.ins,n.sv,n.av,n.ov]] w (Ret w (fun u_ p_=>∃(ps:List HP) (m:Nt),u_=m.agg∧p_=[rS9 46 3 m.sv m.ss sqC,rS9 67 2 m.av m.gs anC,bigE ps]∧(∀w,(bigE ps).holds w→RdsSqs w m.ss∧RdsW w m.ov 1 m.os.length (m.os.map (Value.int .i64)))∧(m.sv.oneCell'=true∧m.ov.oneCell'=true)∧CopyOf n m)):=
  (kY n w hr qs1 qa1 qo1 q4).mono (Ret.conv fun u p ⟨ps,m,h1,h2,h3,h4,h5⟩=>⟨_,⟨_,m,h1,rfl,fun w hw=>⟨h3 w (aX hw List.mem_cons_self),bT (aX hw (List.mem_cons_of_mem _ List.mem_cons_self))⟩,⟨h4.1,h4.2.2⟩,h5⟩,fun w0 w1 hm=>Bi (by rw[h2] at hm;exact hm)⟩)
theorem fA (n:Nt) (w:World) (hr:RdsNt w n) (hn:NtOk n):Calls Tryz.prog 36 #[.agg #[.int .i64 n.ins,n.sv,n.av,n.ov]] w (Ret w (fun u_ p_=>∃(ps:List HP) (m:Nt),u_=m.agg∧p_=[rS9 46 3 m.sv m.ss sqC,rS9 67 2 m.av m.gs anC,bigE ps]∧(∀w,(bigE ps).holds w→RdsSqs w m.ss∧RdsW w m.ov 1 m.os.length (m.os.map (Value.int .i64)))∧(m.sv.oneCell'=true∧m.ov.oneCell'=true)∧CopyOf n m)):=
  uH n w hr (by have:=hn.s1;omega) (by have:=hn.a1;omega) (by have:=hn.o1;omega) (fun s hs=>(hn.sq s hs).len)
theorem xP (n:Nt) (x y:Int) (w:World) (hr:RdsNt w n) (hn:NtOk n) (hx:LtOk x n.cnt) (hy:LtOk y n.cnt) (hl:n.gs.length<300) :
   Calls Tryz.prog 44 #[.agg #[.int .i64 n.ins,n.sv,n.av,n.ov],.int .i64 x,.int .i64 y] w (Ret w (fun u_ p_=>∃(ps:List HP) (m:Nt) (x:Int),u_=.tuple #[m.agg,.int .i64 x]∧p_=[rS9 46 3 m.sv m.ss sqC,bigE ps]∧(∀w,(bigE ps).holds w→NtRest w m)∧(m.sv.oneCell'=true∧m.av.oneCell'=true∧m.ov.oneCell'=true)∧Grew n m x)):=by
 have hi0:=hn.i0
 have hi1:=hn.i1
 have hs1:=hn.s1
 have ha1:=hn.a1
 have ho1:=hn.o1
 have hcnt:n.cnt=1+n.ins+n.ss.length+n.gs.length:=rfl
 have hfst:n.fst=1+n.ins+n.ss.length:=rfl
 obtain⟨hx0,hx1⟩:=id hx
 obtain⟨hy0,hy1⟩:=id hy
 refine bN (N:=99) (args:=[.agg #[jI n.ins,n.sv,n.av,n.ov],jI x,jI y]) Tryz.func44 A A (cF ?_)
 refine cR A (cN A A) ?_
 intro b1
 refine cR A (bP (z:=.agg #[jI 0,.slice none 0 0,.slice none 0 0,.slice none 0 0]) A A) ?_
 intro b2
 refine aU 1 A (cF (aP A (aF (cs:=[jI n.ins,n.sv,n.av,n.ov]) A A A A A (aD 1 A 0 A)) ?_))
 refine eB A A A (aJ A A (fun w hm=>fA n w (hr.below hm.bel) hn)) ?_
 intro v3 p4 R5
 obtain⟨ps,m,rfl,rfl,hps,⟨o1m,o3m⟩,hcp⟩:=R5
 have hmg:m.gs.length=n.gs.length:=by rw[hcp.gs]
 refine cR A (bP (z:=.agg #[jI 0,.slice none 0 0,.slice none 0 0,.slice none 0 0]) A A) ?_
 intro b6
 refine dZ (i:=2) A (fun ho7=>?_)
 refine bI (cs':=#[jI m.ins,m.sv,m.av,m.ov]) (i:=0) (off:=0) (us:=[jI m.ins,m.sv,m.av,m.ov]) A A A A A A A (aA A (aA o1m (aA ho7 (aA o3m bA)))) A A A (bR (cF (aP A (aF (cs:=[jI n.ins,n.sv,n.av,n.ov]) A A A A A (aD 5 A 0 A)) ?_)))
 refine dA A (aJ A A (fun w hm=>aY (cS n w (hr.below hm.bel) hn))) (aU 1 A (eP (aP A (aF (cs:=[jI n.ins,n.sv,n.av,n.ov]) A A A A A (aD 5 A 0 A)) ?_)))
 refine dA A (aJ A A (fun w hm=>aY (eA n w (hr.below hm.bel) hn))) (aM 4 A ?_)
 refine dA A (aJ A A (fun w hm=>aY (jS x n.cnt w hx (by omega)))) (aM 5 A ?_)
 refine dA A (aJ A A (fun w hm=>aY (jS y n.cnt w hy (by omega)))) (aU 2 A (aS A (bY (aC (aC (bZ 1 A ?_))))))
 refine cM A A A A A A (fun h8=>?_) (fun h8=>?_)
 refine aU 10 A (aR A (cF (aP A (aF (cs:=[jI m.ins,m.sv,m.av,m.ov]) A A A A A (aD 0 A 0 A)) ?_)))
 refine bI (cs':=#[jI m.ins,m.sv,m.av,m.ov]) (i:=4) (off:=0) (us:=[jI m.ins,m.sv,m.av,m.ov]) A A A A A A A (aA A (aA o1m (aA ho7 (aA o3m bA)))) A A A (aU 1 A ?_)
 refine aV (aL ?_)
 refine cY (fun w hm=>(aG 2 A w hm).one) (fun ho2=>?_)
 refine aZ 6 [4,1,2,3] A A (by decide) ?_
 refine cB 2 A ?_
 refine aZ 3 [2,0,1] A A (by decide) ?_
 exact bV (rs:=[.cell 6 28,.tmp 7]) (vs:=[.agg #[jI m.ins,m.sv,m.av,m.ov],jI 0]) (post:=[rS9 46 3 m.sv m.ss sqC,bigE [bigE ps,rS9 67 2 m.av m.gs anC]]) A ⟨⟨b2,0,[jI m.ins,m.sv,m.av,m.ov],A,A,by kernel_rfl,by kernel_rfl,aD 2 A 0 A⟩,A,trivial⟩ A (eJ [0,0] A) ⟨_,m,_,A,A,fun w hw=>⟨(hps w (aX hw cL)).1,bT (aX hw (dK cL)),(hps w (aX hw cL)).2⟩,⟨o1m,ho2,o3m⟩,hcp.same hn (by unfold LtOk;omega)⟩
 refine aM 2 A (cM A A A A A A (fun h9=>?_) (fun h9=>?_))
 refine aU 7 A (aR A (cF (aP A (aF (cs:=[jI m.ins,m.sv,m.av,m.ov]) A A A A A (aD 0 A 0 A)) ?_)))
 refine bI (cs':=#[jI m.ins,m.sv,m.av,m.ov]) (i:=4) (off:=0) (us:=[jI m.ins,m.sv,m.av,m.ov]) A A A A A A A (aA A (aA o1m (aA ho7 (aA o3m bA)))) A A A (aU 1 A ?_)
 refine aV (aL ?_)
 refine cY (fun w hm=>(aG 2 A w hm).one) (fun ho2=>?_)
 refine aZ 6 [4,1,2,3] A A (by decide) ?_
 refine cB 2 A ?_
 refine aZ 3 [2,0,1] A A (by decide) ?_
 exact bV (rs:=[.cell 6 28,.tmp 7]) (vs:=[.agg #[jI m.ins,m.sv,m.av,m.ov],jI 0]) (post:=[rS9 46 3 m.sv m.ss sqC,bigE [bigE ps,rS9 67 2 m.av m.gs anC]]) A ⟨⟨b2,0,[jI m.ins,m.sv,m.av,m.ov],A,A,by kernel_rfl,by kernel_rfl,aD 2 A 0 A⟩,A,trivial⟩ A (eJ [0,0] A) ⟨_,m,_,A,A,fun w hw=>⟨(hps w (aX hw cL)).1,bT (aX hw (dK cL)),(hps w (aX hw cL)).2⟩,⟨o1m,ho2,o3m⟩,hcp.same hn (by unfold LtOk;omega)⟩
 refine aM 4 A (aP A (cP A (by decide) A A (r:=xr y) (iB hy0 (by omega))) ?_)
 refine cM A A A A A A (fun h10=>?_) (fun h10=>?_)
 refine aU 1 A (aR A (cF (aP A (aF (cs:=[jI m.ins,m.sv,m.av,m.ov]) A A A A A (aD 0 A 0 A)) ?_)))
 refine bI (cs':=#[jI m.ins,m.sv,m.av,m.ov]) (i:=4) (off:=0) (us:=[jI m.ins,m.sv,m.av,m.ov]) A A A A A A A (aA A (aA o1m (aA ho7 (aA o3m bA)))) A A A (aU 1 A ?_)
 refine aV (aL ?_)
 refine cY (fun w hm=>(aG 2 A w hm).one) (fun ho2=>?_)
 refine aZ 6 [4,1,2,3] A A (by decide) ?_
 refine cB 2 A ?_
 refine aZ 3 [2,0,1] A A (by decide) ?_
 exact bV (rs:=[.cell 6 28,.tmp 7]) (vs:=[.agg #[jI m.ins,m.sv,m.av,m.ov],jI 0]) (post:=[rS9 46 3 m.sv m.ss sqC,bigE [bigE ps,rS9 67 2 m.av m.gs anC]]) A ⟨⟨b2,0,[jI m.ins,m.sv,m.av,m.ov],A,A,by kernel_rfl,by kernel_rfl,aD 2 A 0 A⟩,A,trivial⟩ A (eJ [0,0] A) ⟨_,m,_,A,A,fun w hw=>⟨(hps w (aX hw cL)).1,bT (aX hw (dK cL)),(hps w (aX hw cL)).2⟩,⟨o1m,ho2,o3m⟩,hcp.same hn (by unfold LtOk;omega)⟩
 refine aU 1 A (aS A (bY (aC (aC (bZ 1 A ?_)))))
 refine cM A A A A A A (fun h11=>?_) (fun h11=>?_)
 refine aU 5 A (aR A (cF (aP A (aF (cs:=[jI m.ins,m.sv,m.av,m.ov]) A A A A A (aD 0 A 0 A)) (aM 1 A ?_))))
 refine bI (cs':=#[jI m.ins,m.sv,m.av,m.ov]) (i:=4) (off:=0) (us:=[jI m.ins,m.sv,m.av,m.ov]) A A A A A A A (aA A (aA o1m (aA ho7 (aA o3m bA)))) A A A (aU 1 A ?_)
 refine aV (aL ?_)
 refine cY (fun w hm=>(aG 2 A w hm).one) (fun ho2=>?_)
 refine aZ 6 [4,1,2,3] A A (by decide) ?_
 refine cB 2 A ?_
 refine aZ 3 [2,0,1] A A (by decide) ?_
 exact bV (rs:=[.cell 6 28,.tmp 7]) (vs:=[.agg #[jI m.ins,m.sv,m.av,m.ov],jI y]) (post:=[rS9 46 3 m.sv m.ss sqC,bigE [bigE ps,rS9 67 2 m.av m.gs anC]]) A ⟨⟨b2,0,[jI m.ins,m.sv,m.av,m.ov],A,A,by kernel_rfl,by kernel_rfl,aD 2 A 0 A⟩,A,trivial⟩ A (eJ [0,0] A) ⟨_,m,_,A,A,fun w hw=>⟨(hps w (aX hw cL)).1,bT (aX hw (dK cL)),(hps w (aX hw cL)).2⟩,⟨o1m,ho2,o3m⟩,hcp.same hn hy⟩
 refine aM 3 A (cM A A A A A A (fun h12=>?_) (fun h12=>?_))
 refine aU 1 A (aR A (cF (aP A (aF (cs:=[jI m.ins,m.sv,m.av,m.ov]) A A A A A (aD 0 A 0 A)) (aM 1 A ?_))))
 refine bI (cs':=#[jI m.ins,m.sv,m.av,m.ov]) (i:=4) (off:=0) (us:=[jI m.ins,m.sv,m.av,m.ov]) A A A A A A A (aA A (aA o1m (aA ho7 (aA o3m bA)))) A A A (aU 1 A ?_)
 refine aV (aL ?_)
 refine cY (fun w hm=>(aG 2 A w hm).one) (fun ho2=>?_)
 refine aZ 6 [4,1,2,3] A A (by decide) ?_
 refine cB 2 A ?_
 refine aZ 3 [2,0,1] A A (by decide) ?_
 exact bV (rs:=[.cell 6 28,.tmp 7]) (vs:=[.agg #[jI m.ins,m.sv,m.av,m.ov],jI y]) (post:=[rS9 46 3 m.sv m.ss sqC,bigE [bigE ps,rS9 67 2 m.av m.gs anC]]) A ⟨⟨b2,0,[jI m.ins,m.sv,m.av,m.ov],A,A,by kernel_rfl,by kernel_rfl,aD 2 A 0 A⟩,A,trivial⟩ A (eJ [0,0] A) ⟨_,m,_,A,A,fun w hw=>⟨(hps w (aX hw cL)).1,bT (aX hw (dK cL)),(hps w (aX hw cL)).2⟩,⟨o1m,ho2,o3m⟩,hcp.same hn hy⟩
 refine aU 1 A (aS A (bY (aC (aC (bZ 1 A ?_)))))
 refine cM A A A A A A (fun h13=>?_) (fun h13=>?_)
 refine bR (aR A (cF (aP A (aF (cs:=[jI m.ins,m.sv,m.av,m.ov]) A A A A A (aD 0 A 0 A)) (aM 1 A ?_))))
 refine bI (cs':=#[jI m.ins,m.sv,m.av,m.ov]) (i:=4) (off:=0) (us:=[jI m.ins,m.sv,m.av,m.ov]) A A A A A A A (aA A (aA o1m (aA ho7 (aA o3m bA)))) A A A (aU 1 A ?_)
 refine aV (aL ?_)
 refine cY (fun w hm=>(aG 2 A w hm).one) (fun ho2=>?_)
 refine aZ 6 [4,1,2,3] A A (by decide) ?_
 refine cB 2 A ?_
 refine aZ 3 [2,0,1] A A (by decide) ?_
 exact bV (rs:=[.cell 6 28,.tmp 7]) (vs:=[.agg #[jI m.ins,m.sv,m.av,m.ov],jI x]) (post:=[rS9 46 3 m.sv m.ss sqC,bigE [bigE ps,rS9 67 2 m.av m.gs anC]]) A ⟨⟨b2,0,[jI m.ins,m.sv,m.av,m.ov],A,A,by kernel_rfl,by kernel_rfl,aD 2 A 0 A⟩,A,trivial⟩ A (eJ [0,0] A) ⟨_,m,_,A,A,fun w hw=>⟨(hps w (aX hw cL)).1,bT (aX hw (dK cL)),(hps w (aX hw cL)).2⟩,⟨o1m,ho2,o3m⟩,hcp.same hn hx⟩
 refine bR (aS A (bY (aC (bZ 2 A (aP A (oH A A A) (aM 2 A (aP A (tP A A A) (aP A (dQ (cs:=#[jI (min x y),jI (if x<y then y else x)]) A A A) ?_))))))))
 refine cR A (bP (z:=.agg #[jI 0,jI 0]) A A) ?_
 intro b14
 refine bI (cs':=#[jI (min x y),jI (if x<y then y else x)]) (i:=0) (off:=0) (us:=[jI (min x y),jI (if x<y then y else x)]) A A A A A A A (aA A (aA A bA)) A A A (bR (aC (bD 1 A (bE ?_))))
 refine hO (α:=Nat) [0,1,2,3,6,7,8,9,10,30,43,51,55] A (fun i=>[boxE b14 #[jI (min x y),jI (if x<y then y else x)] 67,nB9 b6 m,rS9 46 3 m.sv m.ss sqC,rS9 67 2 m.av m.gs anC,bigE ps,eB9 b2,nB9 b1 n]) (fun i=>[(11,jI (i:Int))]) (fun i=>i≤n.gs.length) (fun i=>n.gs.length-i) 0 (Nat.zero_le _) (cT A) (dS A) ?_
 intro i hi15
 have hi:=hi15
 refine aC (aC (bZ 1 A (aP A (cQ 2 A A A) (aP A (aN A A A (aH 6 A A)) (aP A (bC A Tryz.underlying25 A (aE hr.an)) ?_)))))
 refine bQ A A A A A A (fun h16=>?_) (fun h16=>?_)
 refine bR (aR A (bY (fM (aC ?_))))
 refine cJ 7 [[],[0],[],[1,2],[3],[],[4,5]] [72,73,74,75,76,77,78] [.pointer (some ⟨b1,0+2,none⟩),n.av,jI (i:Int),elP n.av ((i:Int).toNat*2),.agg #[jI ((n.gs.getD i an0).a),jI ((n.gs.getD i an0).b)],.agg #[jI (min x y),jI (if x<y then y else x)],.bool (eqA ((n.gs.getD i an0).a) ((n.gs.getD i an0).b) (min x y) (if x<y then y else x))] (by kernel_rfl) A ?_ ?_
 exact⟨bK A (cQ 2 A A A) A,bK A (aN A A A (aH 6 A A)) A,bK A (aK A) A,bK A (dF 2 A A A A (aE hr.an)) A,bK A (eI (us:=[jI ((n.gs.getD i an0).a),jI ((n.gs.getD i an0).b)]) A A A A (aE hr.an) (by omega) A (fC anC 2 (fun _=>A) n.gs an0 (show i<_ by omega) A)) A,bK A (aF (cs:=[jI (min x y),jI (if x<y then y else x)]) A A A A A (aD 0 A 0 A)) A,bK A (tQ A A A) A,trivial⟩
 simp only[List.drop_succ_cons,List.drop_zero]
 refine bR ?_
 refine fU A (fun h17=>?_) (fun h17=>?_)
 refine aC (eE 7 [6,4,3,2,1,0,5] A A (by decide) ?_)
 refine eF (l:=[boxE b14 #[jI (min x y),jI (if x<y then y else x)] 67,nB9 b6 m,rS9 46 3 m.sv m.ss sqC,rS9 67 2 m.av m.gs anC,bigE ps,nB9 b1 n]) A 7 [0,1,2,3,4,5,6] (List.take 7 _) (List.drop 7 _) [[],[],[1],[],[2,3],[4],[0]] [some 79,some 80,some 81,some 82,some 83,some 84,none] (fun i_ vs_ v_ p_=>match i_ with|0=>v_=.agg #[jI m.ins,m.sv,m.av,m.ov]∧p_=[]|1=>v_=.agg #[jI n.ins,n.sv,n.av,n.ov]∧p_=[]|2=>v_=jI n.fst∧p_=[]|3=>v_=jI (i:Int)∧p_=[]|4=>v_=jI (n.fst+(i:Int))∧p_=[]|5=>v_=jI (2*(n.fst+(i:Int)))∧p_=[]|6=>p_=[nB9 b2 m]|_=>True) [[],[],[1],[],[2,3],[4],[0]] [none,none,none,none,none,none,some 8] [[eB9 b2]] [0,1,2,3,4,5,6] 8 (List.take_append_drop 7 _).symm (by kernel_rfl) (by kernel_rfl) (by kernel_rfl) A A ?_ ?_
 refine⟨?_,?_,?_,?_,?_,?_,?_,trivial⟩
 intro vf pf hmu hR
 refine bL [] [] A (aW (aI [8] A) (List.sublist_append_right _ _) ?_)
 exact aT (aF (cs:=[jI m.ins,m.sv,m.av,m.ov]) A A A A A (aD 1 A 0 A))
 intro vf pf hmu hR
 refine bL [] [] A (aW (aI [3] A) (List.sublist_append_right _ _) ?_)
 exact aT (aF (cs:=[jI n.ins,n.sv,n.av,n.ov]) A A A A A (aD 5 A 0 A))
 intro vf pf hmu hR
 have e1:=hR 1 (by decide)
 refine bL [1] [1] A (aW (sk 80 (congrArg some e1.1) (aB _)) (List.sublist_append_right _ _) ?_)
 exact(aJ A A (fun w hm=>aY (dD n w (hr.below hm.bel) hn)))
 intro vf pf hmu hR
 refine bL [] [] A (bH (aI [11] A) ?_)
 exact aT (aK A)
 intro vf pf hmu hR
 have e2:=hR 2 (by decide)
 have e3:=hR 3 (by decide)
 refine bL [2,3] [2,3] A (bH (sk 81 (congrArg some e2.1) (sk 82 (congrArg some e3.1) (aB _))) ?_)
 exact aT (dM A A A)
 intro vf pf hmu hR
 have e4:=hR 4 (by decide)
 refine bL [4] [4] A (bH (sk 83 (congrArg some e4.1) (aB _)) ?_)
 exact aT (fO A A A (by constructor<;>omega))
 intro vf pf hmu hR
 have e0:=hR 0 (by decide)
 refine Or.inl ⟨A,?_⟩
 show RunM _ _ _ (pf 8) (([0]:List Nat).flatMap pf++_) (envOf3 _ vf [0]++_) _ _
 have hmu0:pf 8=[eB9 b2]:=hmu 0 (show 0<1 by omega)
 rw[hmu0]
 exact cV (sk 6 A (sk 79 (congrArg some e0.1) (aB _))) (by simp only[e0.2,fS]<;>rfl) (fD (dR (us:=[jI m.ins,m.sv,m.av,m.ov]) (off:=0) 0 A A A A A A (aA A (aA o1m (aA ho7 (aA o3m bA)))) A A) (fun v_ p_ h=>by show p_=[nB9 b2 m];exact h))
 intro vf pf hmu hR
 have e5:=hR 5 (by decide)
 have e6:(pf 6)=[nB9 b2 m]:=hR 6 (by decide)
 have pE6:=e6
 have q0:=hR 0 (by decide)
 have q1:=hR 1 (by decide)
 have q2:=hR 2 (by decide)
 have q3:=hR 3 (by decide)
 have q4:=hR 4 (by decide)
 have q5:=hR 5 (by decide)
 refine cE (bO [78,69,55,51,43,30,11,10,9,8,7,6,3,2,1,0] _ (sk 84 (congrArg some e5.1) (aB _)) A) (by simp only[pE6,q0.2,q1.2,q2.2,q3.2,q4.2,q5.2,fS]<;>rfl) ?_
 simp only[List.drop_succ_cons,List.drop_zero]
 refine aU 1 A ?_
 refine aV (aQ ?_)
 refine fL ?_
 refine aQ (aL ?_)
 refine cY (fun w hm=>(aG 4 A w hm).one) (fun ho2=>?_)
 refine aZ 7 [3,0,4,5] A A (by decide) ?_
 refine cB 2 A ?_
 refine aZ 3 [1,0,2] A A (by decide) ?_
 exact bV (rs:=[.cell 6 28,.tmp 7]) (vs:=[.agg #[jI m.ins,m.sv,m.av,m.ov],jI (2*(n.fst+(i:Int)))]) (post:=[rS9 46 3 m.sv m.ss sqC,bigE [bigE ps,rS9 67 2 m.av m.gs anC]]) A ⟨⟨b2,0,[jI m.ins,m.sv,m.av,m.ov],A,A,by kernel_rfl,by kernel_rfl,aD 2 A 0 A⟩,A,trivial⟩ A (eJ [0,0] A) ⟨_,m,_,A,A,fun w hw=>⟨(hps w (aX hw cL)).1,bT (aX hw (dK cL)),(hps w (aX hw cL)).2⟩,⟨o1m,ho2,o3m⟩,hcp.same hn (by unfold LtOk;omega)⟩
 refine fP (cK (bZ 1 A (aP A (dM A A A) (dJ 1 A ?_))))
 exact cU (i+1) (by omega) (by omega) (cT A) (dS A)
 refine bR (aS A ?_)
 refine bM (dI ?_)
 refine aO (bF (eP (aP A (cQ 2 A A A) (aP A (aN A A A (aH 6 A A)) (aP A (bC A Tryz.underlying25 A (aE hr.an)) ?_)))))
 refine cM A A A A A A (fun h18=>absurd h18 (by omega)) (fun h18=>?_)
 refine bR (aS A (bY (cF (aP A (cQ 2 A A A) (aP A (aN A A A (aH 1 A A)) (aP A (aF (cs:=[jI (min x y),jI (if x<y then y else x)]) A A A A A (aD 0 A 0 A)) ?_))))))
 refine dP A (bB (z:=.agg #[jI 0,jI 0]) (s:=2) (cs:=(mI [min x y,(if x<y then y else x)])) A Tryz.underlying25 A (by decide) A (by kernel_rfl) A) ?_
 intro g19
 refine cW (i:=4) (z:=.agg #[jI 0,jI 0]) (bytes:=16) A A A A Tryz.underlying25 (by kernel_rfl) A A A A (aG 0 A) (cO _) (by first|omega|(simp only[List.length_append,List.length_cons,List.length_nil];omega)) (cH m.gs [(An.mk (min x y) (if x<y then y else x))]) (dY anC m.gs (An.mk (min x y) (if x<y then y else x)) _ A) (fun _=>A) ?_
 intro v20
 refine aP A (cQ 2 A A A) (dZ (i:=4) A (fun ho21=>?_))
 refine fI (i:=2) (cs':=#[jI m.ins,m.sv,v20,m.ov]) A A A A A A ho21 A A A A (bR (cF (aP A (aF (cs:=[jI m.ins,m.sv,v20,m.ov]) A A A A A (aD 2 A 0 A)) (aM 1 A (aP A (fO A A A (by constructor<;>omega)) ?_)))))
 refine bI (cs':=#[jI m.ins,m.sv,v20,m.ov]) (i:=6) (off:=0) (us:=[jI m.ins,m.sv,v20,m.ov]) A A A A A A A (aA A (aA o1m (aA ho21 (aA o3m bA)))) A A A (aU 1 A ?_)
 refine aV (cY (fun w hm=>(aG 4 A w hm).one) (fun ho2=>?_))
 refine aZ 8 [6,3,4,5] A A (by decide) ?_
 refine cB 2 A ?_
 refine aZ 3 [2,0,1] A A (by decide) ?_
 exact bV (rs:=[.cell 6 28,.tmp 7]) (vs:=[.agg #[jI m.ins,m.sv,v20,m.ov],jI (2*n.cnt)]) (post:=[rS9 46 3 m.sv m.ss sqC,bigE [bigE ps,rowE 67 2 v20 ((m.gs++[(An.mk (min x y) (if x<y then y else x))]).length) ((m.gs++[(An.mk (min x y) (if x<y then y else x))]).flatMap anC)]]) A ⟨⟨b2,0,[jI m.ins,m.sv,v20,m.ov],A,A,by kernel_rfl,by kernel_rfl,aD 2 A 0 A⟩,A,trivial⟩ A (eJ [0,0] A) ⟨_,{ m with av:=v20,gs:=m.gs++[(An.mk (min x y) (if x<y then y else x))] },_,A,A,fun w hw=>⟨(hps w (aX hw cL)).1,bT (aX hw (dK cL)),(hps w (aX hw cL)).2⟩,⟨o1m,ho2,o3m⟩,(by rw[show(2*n.cnt)=2*n.cnt by omega];exact hcp.put hn hx hy (by omega) _)⟩
theorem gU (tos lits:List Int) (c m:Int) (u v:Value) (w:World) (hu:RdsW w u 1 tos.length (tos.map (Value.int .i64))) (hv:RdsW w v 1 lits.length (lits.map (Value.int .i64))) (hmk:MapOk tos c m) (hm9:m≤100000) (hc9:c≤100000) (hlits:∀x∈lits,LtOk x c) (hl:lits.length≤1000) :
   Calls Tryz.prog 43 #[u,v] w (Ret w (fun v' post=>post=[rI9 3 v' (mpS tos lits)])):=by
 refine bN (N:=32) (args:=[u,v]) Tryz.func43 A A (bD 1 A (cF ?_))
 refine dP A (dH (s:=1) A Tryz.underlying26 A) ?_
 intro g1
 refine aU 1 A (aC (bD 1 A (bE ?_)))
 refine iC (α:=Nat) (β:=Value) (γ:=List Int) [0,1,4] A (fun i gu zs=>[rI9 3 gu zs]) (fun i gu zs=>[(5,gu),(6,jI (i:Int))]) (fun i gu zs=>i≤lits.length∧zs=mpS tos (lits.take i)) (fun i gu zs=>lits.length-i) 0 _ [] ⟨by omega,A⟩ (cT A) (dS A) ?_
 intro i gu zs hi2
 obtain⟨hi,hz⟩:=hi2
 have hzl:zs.length=i:=by rw[hz];unfold mpS;rw[List.length_map,List.length_take];omega
 refine aC (aC (bZ 2 A (aP A (bC A Tryz.underlying26 A (aE hv)) ?_)))
 refine bQ A A A A A A (fun h3=>?_) (fun h3=>?_)
 refine bR (aR A (bY (fM ?_)))
 have hlt:=hlits _ (bS (d:=(0:Int)) (show i<lits.length by omega))
 have htk:=(hmk.lit hlt).1
 have hmk1:=hmk.1
 unfold LtOk at hlt htk
 refine eV A 16 [0,1,2,3,4,5,6,7,8,9,10,11,12,13,14,15] (List.take 16 _) (List.drop 16 _) [[],[],[],[],[2,3],[4],[5],[1,6],[7],[],[],[9,10],[11],[12],[8,13],[14]] [14,15,16,17,18,19,20,21,22,23,24,25,26,27,28,29] (fun i_ vs_ v_ p_=>match i_ with|0=>v_=gu∧p_=[]|1=>v_=u∧p_=[]|2=>v_=v∧p_=[]|3=>v_=jI (i:Int)∧p_=[]|4=>v_=elP v ((i:Int).toNat*1)∧p_=[]|5=>v_=jI (lits.getD i 0)∧p_=[]|6=>v_=jI ((lits.getD i 0) / 2)∧p_=[]|7=>v_=elP u (((lits.getD i 0) / 2).toNat*1)∧p_=[]|8=>v_=jI (tos.getD (((lits.getD i 0) / 2).toNat) 0)∧p_=[]|9=>v_=v∧p_=[]|10=>v_=jI (i:Int)∧p_=[]|11=>v_=elP v ((i:Int).toNat*1)∧p_=[]|12=>v_=jI (lits.getD i 0)∧p_=[]|13=>v_=jI ((lits.getD i 0) % 2)∧p_=[]|14=>v_=jI (mpL tos (lits.getD i 0))∧p_=[]|15=>IsRow 3 1 1 (mI [mpL tos (lits.getD i 0)]) v_ p_|_=>True) (List.take_append_drop 16 _).symm (by kernel_rfl) (by kernel_rfl) A A ?_ ?_
 refine⟨?_,?_,?_,?_,?_,?_,?_,?_,?_,?_,?_,?_,?_,?_,?_,?_,trivial⟩
 intro vf pf hR
 exact fX A (aI [5] A) (aT (aK A))
 intro vf pf hR
 exact fX A (aI [0] A) (aT (aK A))
 intro vf pf hR
 exact fX A (aI [1] A) (aT (aK A))
 intro vf pf hR
 exact fX A (aI [6] A) (aT (aK A))
 intro vf pf hR
 have e2:=hR 2 (by decide)
 have e3:=hR 3 (by decide)
 exact eZ A (sk 16 (congrArg some e2.1) (sk 17 (congrArg some e3.1) (aB _))) (aT (dF 1 A A A A (aE hv)))
 intro vf pf hR
 have e4:=hR 4 (by decide)
 exact eZ A (sk 18 (congrArg some e4.1) (aB _)) (aT (hC A A A (aE hv)))
 intro vf pf hR
 have e5:=hR 5 (by decide)
 exact fX A (sk 19 (congrArg some e5.1) (aB _)) (aT (fF A A A (by refine⟨?_,?_,?_⟩<;>omega)))
 intro vf pf hR
 have e1:=hR 1 (by decide)
 have e6:=hR 6 (by decide)
 exact eZ A (sk 15 (congrArg some e1.1) (sk 20 (congrArg some e6.1) (aB _))) (aT (dF 1 A A A A (aE hu)))
 intro vf pf hR
 have e7:=hR 7 (by decide)
 exact eZ A (sk 21 (congrArg some e7.1) (aB _)) (aT (rR A A A (aE hu)))
 intro vf pf hR
 exact fX A (aI [1] A) (aT (aK A))
 intro vf pf hR
 exact fX A (aI [6] A) (aT (aK A))
 intro vf pf hR
 have e9:=hR 9 (by decide)
 have e10:=hR 10 (by decide)
 exact eZ A (sk 23 (congrArg some e9.1) (sk 24 (congrArg some e10.1) (aB _))) (aT (dF 1 A A A A (aE hv)))
 intro vf pf hR
 have e11:=hR 11 (by decide)
 exact eZ A (sk 25 (congrArg some e11.1) (aB _)) (aT (hC A A A (aE hv)))
 intro vf pf hR
 have e12:=hR 12 (by decide)
 exact fX A (sk 26 (congrArg some e12.1) (aB _)) (aT (cP A (by decide) A A (r:=(lits.getD i 0) % 2) (Bit.and_one _ (by omega) (by omega))))
 intro vf pf hR
 have e8:=hR 8 (by decide)
 have e13:=hR 13 (by decide)
 exact fX A (sk 22 (congrArg some e8.1) (sk 27 (congrArg some e13.1) (aB _))) (aT (cP A (by decide) A A (r:=mpL tos (lits.getD i 0)) (lD (by omega) (by omega))))
 intro vf pf hR
 have e14:=hR 14 (by decide)
 exact eZ A (sk 28 (congrArg some e14.1) (aB _)) (bB (z:=jI 0) (s:=1) (cs:=(mI [mpL tos (lits.getD i 0)])) A Tryz.underlying26 A (by decide) A (by kernel_rfl) A)
 intro vf pf hR
 have e0:=hR 0 (by decide)
 have e15:IsRow 3 1 1 (mI [mpL tos (lits.getD i 0)]) (vf 15) (pf 15):=hR 15 (by decide)
 obtain⟨g4,vE15,pE15⟩:=e15
 have q0:=hR 0 (by decide)
 have q1:=hR 1 (by decide)
 have q2:=hR 2 (by decide)
 have q3:=hR 3 (by decide)
 have q4:=hR 4 (by decide)
 have q5:=hR 5 (by decide)
 have q6:=hR 6 (by decide)
 have q7:=hR 7 (by decide)
 have q8:=hR 8 (by decide)
 have q9:=hR 9 (by decide)
 have q10:=hR 10 (by decide)
 have q11:=hR 11 (by decide)
 have q12:=hR 12 (by decide)
 have q13:=hR 13 (by decide)
 have q14:=hR 14 (by decide)
 refine cE (bO [11,6,5,4,1,0] _ (sk 14 (congrArg some e0.1) (sk 29 (congrArg some vE15) (aB _))) A) (by simp only[pE15,vE15,q0.2,q1.2,q2.2,q3.2,q4.2,q5.2,q6.2,q7.2,q8.2,q9.2,q10.2,q11.2,q12.2,q13.2,q14.2,fS]<;>rfl) ?_
 simp only[List.drop_succ_cons,List.drop_zero]
 refine cW (i:=1) (z:=jI 0) (bytes:=8) A A A A Tryz.underlying26 (by kernel_rfl) A A A A (aG 0 A) (cO _) (by first|omega|(simp;done)|(simp;omega)) (cH zs ([mpL tos (lits.getD i 0)])) (dL zs ([mpL tos (lits.getD i 0)])) (fun _=>A) ?_
 intro v5
 refine dJ 1 A (cK (bZ 1 A (aP A (dM A A A) (dJ 1 A ?_))))
 exact cI (i+1) v5 (zs++([mpL tos (lits.getD i 0)])) ⟨by omega,by rw[hz];unfold mpS;rw[eT 0 (show i<lits.length by omega),List.map_append];rfl⟩ (by omega) (cT rfl) (eJ [1] rfl)
 refine bR (aS A ?_)
 refine bM (dI ?_)
 refine aO (bF (bD 2 A ?_))
 exact aV (dX (post:=[rI9 3 gu zs]) A A (dS A) (by rw[hz,List.take_of_length_le (by omega)]))
structure CpS (n m:Nt):Prop where
  ins:m.ins=n.ins
  os:m.os=n.os
  ss:m.ss.map sqv=n.ss.map sqv
def OpS (n m:Nt) (o:Option (List An×Int)) (z:Int):Prop:=o=some (m.gs,z)∨(o=none∧z<0∧m.gs=n.gs)
theorem CopyOf.cps {n m:Nt}(h:CopyOf n m):CpS n m:=⟨h.ins,h.os,h.ss⟩
theorem yF {n m:Nt}{o:Option (List An×Int)}{z:Int}(h:CopyOf n m) (e:o=none) (hz:z<0):OpS n m o z:=.inr ⟨e,hz,h.gs⟩
theorem mY {n m:Nt}{o:Option (List An×Int)}{z:Int}(h:CopyOf n m) (e:o=some (n.gs,z)):OpS n m o z:=.inl (by rw[e,h.gs])
theorem jO {x y:Int}(hx:0≤x) (hy:0≤y):xr x=y↔x=xr y:=⟨fun h=>by rw[←h,Gn hx],fun h=>by rw[h,Gn hy]⟩
theorem yL {x m:Int}:LtOk x m↔0≤x∧x / 2<m:=by unfold LtOk;omega
theorem iD (x m:Int) (w:World) (hx:x≤9223372036854775807) :
   Calls Tryz.prog 40 #[.int .i64 x,.int .i64 m] w (Ans w (.bool (decide (LtOk x m)))):=by
 refine bN (N:=13) (args:=[jI x,jI m]) Tryz.func40 A A (bD 1 A (aC (bZ 1 A ?_)))
 refine gO A A A A A A (fun h1=>?_) (fun h1=>?_)
 refine aM 2 A (aP A (fF A A A (by refine⟨?_,?_,?_⟩<;>omega)) ?_)
 refine aM 1 A (bQ A A A A A A (fun h2=>?_) (fun h2=>?_))
 refine aU 2 A ?_
 exact aV (cA A A (congrArg _ (decide_eq_true (yL.2 (by omega))).symm))
 refine aU 2 A ?_
 exact aV (cA A A (congrArg _ (decide_eq_false (fun h9=>by have h8:=yL.1 h9;omega)).symm))
 refine aU 7 A ?_
 exact aV (cA A A (congrArg _ (decide_eq_false (fun h9=>by have h8:=yL.1 h9;omega)).symm))
theorem iF (n:Nt) (x y:Int) (w:World) (hr:RdsNt w n) (hn:NtOk n) (hxb:x<4294967296) (hyb:y<4294967296) :
   Calls Tryz.prog 44 #[.agg #[.int .i64 n.ins,n.sv,n.av,n.ov],.int .i64 x,.int .i64 y] w (Ret w (fun u_ p_=>∃(ps:List HP) (m:Nt) (z:Int),u_=.tuple #[m.agg,.int .i64 z]∧p_=[rS9 46 3 m.sv m.ss sqC,bigE ps]∧(∀w,(bigE ps).holds w→NtRest w m)∧(m.sv.oneCell'=true∧m.av.oneCell'=true∧m.ov.oneCell'=true)∧CpS n m∧OpS n m (andO n.fst n.gs x y) z)):=by
 have hi0:=hn.i0
 have hi1:=hn.i1
 have hs1:=hn.s1
 have ha1:=hn.a1
 have ho1:=hn.o1
 have hcnt:n.cnt=1+n.ins+n.ss.length+n.gs.length:=rfl
 have hfst:n.fst=1+n.ins+n.ss.length:=rfl
 have hmx:(if x<y then y else x)=max x y:=by split<;>omega
 refine bN (N:=99) (args:=[.agg #[jI n.ins,n.sv,n.av,n.ov],jI x,jI y]) Tryz.func44 A A (cF ?_)
 refine cR A (cN A A) ?_
 intro b1
 refine cR A (bP (z:=.agg #[jI 0,.slice none 0 0,.slice none 0 0,.slice none 0 0]) A A) ?_
 intro b2
 refine aU 1 A (cF (aP A (aF (cs:=[jI n.ins,n.sv,n.av,n.ov]) A A A A A (aD 1 A 0 A)) ?_))
 refine eB A A A (aJ A A (fun w hm=>fA n w (hr.below hm.bel) hn)) ?_
 intro v3 p4 R5
 obtain⟨ps,m,rfl,rfl,hps,⟨o1m,o3m⟩,hcp⟩:=R5
 have hmg:m.gs.length=n.gs.length:=by rw[hcp.gs]
 refine cR A (bP (z:=.agg #[jI 0,.slice none 0 0,.slice none 0 0,.slice none 0 0]) A A) ?_
 intro b6
 refine dZ (i:=2) A (fun ho7=>?_)
 refine bI (cs':=#[jI m.ins,m.sv,m.av,m.ov]) (i:=0) (off:=0) (us:=[jI m.ins,m.sv,m.av,m.ov]) A A A A A A A (aA A (aA o1m (aA ho7 (aA o3m bA)))) A A A (bR (cF (aP A (aF (cs:=[jI n.ins,n.sv,n.av,n.ov]) A A A A A (aD 5 A 0 A)) ?_)))
 refine dA A (aJ A A (fun w hm=>aY (cS n w (hr.below hm.bel) hn))) (aU 1 A (eP (aP A (aF (cs:=[jI n.ins,n.sv,n.av,n.ov]) A A A A A (aD 5 A 0 A)) ?_)))
 refine dA A (aJ A A (fun w hm=>aY (eA n w (hr.below hm.bel) hn))) (aM 4 A ?_)
 refine dA A (aJ A A (fun w hm=>aY (iD x n.cnt w (by omega)))) (bW (fun h8=>?_) (fun h8=>?_))
 have hx:=of_decide_eq_true h8
 obtain⟨hx0,hx1⟩:=id hx
 refine aM 5 A (dA A (aJ A A (fun w hm=>aY (iD y n.cnt w (by omega)))) ?_)
 refine bW (fun h9=>?_) (fun h9=>?_)
 have hy:=of_decide_eq_true h9
 obtain⟨hy0,hy1⟩:=id hy
 refine aU 2 A (aS A (bY (aC (aC (bZ 1 A ?_)))))
 refine cM A A A A A A (fun h10=>?_) (fun h10=>?_)
 refine aU 10 A (aR A (cF (aP A (aF (cs:=[jI m.ins,m.sv,m.av,m.ov]) A A A A A (aD 0 A 0 A)) ?_)))
 refine bI (cs':=#[jI m.ins,m.sv,m.av,m.ov]) (i:=4) (off:=0) (us:=[jI m.ins,m.sv,m.av,m.ov]) A A A A A A A (aA A (aA o1m (aA ho7 (aA o3m bA)))) A A A (aU 1 A ?_)
 refine aV (aL ?_)
 have hgp:CpS n (m)∧OpS n (m) (andO n.fst n.gs x y) (0):=⟨hcp.cps,mY hcp (jN hx hy (by first|exact .inl (by omega)|exact .inr (.inl (by omega))|exact .inr (.inr ((jO hx0 hy0).2 (by omega)))))⟩
 refine cY (fun w hm=>(aG 2 A w hm).one) (fun ho2=>?_)
 refine aZ 6 [4,1,2,3] A A (by decide) ?_
 refine cB 2 A ?_
 refine aZ 3 [2,0,1] A A (by decide) ?_
 exact bV (rs:=[.cell 6 28,.tmp 7]) (vs:=[.agg #[jI m.ins,m.sv,m.av,m.ov],jI 0]) (post:=[rS9 46 3 m.sv m.ss sqC,bigE [bigE ps,rS9 67 2 m.av m.gs anC]]) A ⟨⟨b2,0,[jI m.ins,m.sv,m.av,m.ov],A,A,by kernel_rfl,by kernel_rfl,aD 2 A 0 A⟩,A,trivial⟩ A (eJ [0,0] A) ⟨_,m,_,A,A,fun w hw=>⟨(hps w (aX hw cL)).1,bT (aX hw (dK cL)),(hps w (aX hw cL)).2⟩,⟨o1m,ho2,o3m⟩,hgp.1,hgp.2⟩
 refine aM 2 A (cM A A A A A A (fun h11=>?_) (fun h11=>?_))
 refine aU 7 A (aR A (cF (aP A (aF (cs:=[jI m.ins,m.sv,m.av,m.ov]) A A A A A (aD 0 A 0 A)) ?_)))
 refine bI (cs':=#[jI m.ins,m.sv,m.av,m.ov]) (i:=4) (off:=0) (us:=[jI m.ins,m.sv,m.av,m.ov]) A A A A A A A (aA A (aA o1m (aA ho7 (aA o3m bA)))) A A A (aU 1 A ?_)
 refine aV (aL ?_)
 have hgp:CpS n (m)∧OpS n (m) (andO n.fst n.gs x y) (0):=⟨hcp.cps,mY hcp (jN hx hy (by first|exact .inl (by omega)|exact .inr (.inl (by omega))|exact .inr (.inr ((jO hx0 hy0).2 (by omega)))))⟩
 refine cY (fun w hm=>(aG 2 A w hm).one) (fun ho2=>?_)
 refine aZ 6 [4,1,2,3] A A (by decide) ?_
 refine cB 2 A ?_
 refine aZ 3 [2,0,1] A A (by decide) ?_
 exact bV (rs:=[.cell 6 28,.tmp 7]) (vs:=[.agg #[jI m.ins,m.sv,m.av,m.ov],jI 0]) (post:=[rS9 46 3 m.sv m.ss sqC,bigE [bigE ps,rS9 67 2 m.av m.gs anC]]) A ⟨⟨b2,0,[jI m.ins,m.sv,m.av,m.ov],A,A,by kernel_rfl,by kernel_rfl,aD 2 A 0 A⟩,A,trivial⟩ A (eJ [0,0] A) ⟨_,m,_,A,A,fun w hw=>⟨(hps w (aX hw cL)).1,bT (aX hw (dK cL)),(hps w (aX hw cL)).2⟩,⟨o1m,ho2,o3m⟩,hgp.1,hgp.2⟩
 refine aM 4 A (aP A (cP A (by decide) A A (r:=xr y) (iB hy0 (by omega))) ?_)
 refine cM A A A A A A (fun h12=>?_) (fun h12=>?_)
 refine aU 1 A (aR A (cF (aP A (aF (cs:=[jI m.ins,m.sv,m.av,m.ov]) A A A A A (aD 0 A 0 A)) ?_)))
 refine bI (cs':=#[jI m.ins,m.sv,m.av,m.ov]) (i:=4) (off:=0) (us:=[jI m.ins,m.sv,m.av,m.ov]) A A A A A A A (aA A (aA o1m (aA ho7 (aA o3m bA)))) A A A (aU 1 A ?_)
 refine aV (aL ?_)
 have hgp:CpS n (m)∧OpS n (m) (andO n.fst n.gs x y) (0):=⟨hcp.cps,mY hcp (jN hx hy (by first|exact .inl (by omega)|exact .inr (.inl (by omega))|exact .inr (.inr ((jO hx0 hy0).2 (by omega)))))⟩
 refine cY (fun w hm=>(aG 2 A w hm).one) (fun ho2=>?_)
 refine aZ 6 [4,1,2,3] A A (by decide) ?_
 refine cB 2 A ?_
 refine aZ 3 [2,0,1] A A (by decide) ?_
 exact bV (rs:=[.cell 6 28,.tmp 7]) (vs:=[.agg #[jI m.ins,m.sv,m.av,m.ov],jI 0]) (post:=[rS9 46 3 m.sv m.ss sqC,bigE [bigE ps,rS9 67 2 m.av m.gs anC]]) A ⟨⟨b2,0,[jI m.ins,m.sv,m.av,m.ov],A,A,by kernel_rfl,by kernel_rfl,aD 2 A 0 A⟩,A,trivial⟩ A (eJ [0,0] A) ⟨_,m,_,A,A,fun w hw=>⟨(hps w (aX hw cL)).1,bT (aX hw (dK cL)),(hps w (aX hw cL)).2⟩,⟨o1m,ho2,o3m⟩,hgp.1,hgp.2⟩
 refine aU 1 A (aS A (bY (aC (aC (bZ 1 A ?_)))))
 refine cM A A A A A A (fun h13=>?_) (fun h13=>?_)
 refine aU 5 A (aR A (cF (aP A (aF (cs:=[jI m.ins,m.sv,m.av,m.ov]) A A A A A (aD 0 A 0 A)) (aM 1 A ?_))))
 refine bI (cs':=#[jI m.ins,m.sv,m.av,m.ov]) (i:=4) (off:=0) (us:=[jI m.ins,m.sv,m.av,m.ov]) A A A A A A A (aA A (aA o1m (aA ho7 (aA o3m bA)))) A A A (aU 1 A ?_)
 refine aV (aL ?_)
 have hgp:CpS n (m)∧OpS n (m) (andO n.fst n.gs x y) (y):=⟨hcp.cps,mY hcp (uY hx hy (by have hxy:=jO hx0 hy0;omega) (by omega))⟩
 refine cY (fun w hm=>(aG 2 A w hm).one) (fun ho2=>?_)
 refine aZ 6 [4,1,2,3] A A (by decide) ?_
 refine cB 2 A ?_
 refine aZ 3 [2,0,1] A A (by decide) ?_
 exact bV (rs:=[.cell 6 28,.tmp 7]) (vs:=[.agg #[jI m.ins,m.sv,m.av,m.ov],jI y]) (post:=[rS9 46 3 m.sv m.ss sqC,bigE [bigE ps,rS9 67 2 m.av m.gs anC]]) A ⟨⟨b2,0,[jI m.ins,m.sv,m.av,m.ov],A,A,by kernel_rfl,by kernel_rfl,aD 2 A 0 A⟩,A,trivial⟩ A (eJ [0,0] A) ⟨_,m,_,A,A,fun w hw=>⟨(hps w (aX hw cL)).1,bT (aX hw (dK cL)),(hps w (aX hw cL)).2⟩,⟨o1m,ho2,o3m⟩,hgp.1,hgp.2⟩
 refine aM 3 A (cM A A A A A A (fun h14=>?_) (fun h14=>?_))
 refine aU 1 A (aR A (cF (aP A (aF (cs:=[jI m.ins,m.sv,m.av,m.ov]) A A A A A (aD 0 A 0 A)) (aM 1 A ?_))))
 refine bI (cs':=#[jI m.ins,m.sv,m.av,m.ov]) (i:=4) (off:=0) (us:=[jI m.ins,m.sv,m.av,m.ov]) A A A A A A A (aA A (aA o1m (aA ho7 (aA o3m bA)))) A A A (aU 1 A ?_)
 refine aV (aL ?_)
 have hgp:CpS n (m)∧OpS n (m) (andO n.fst n.gs x y) (y):=⟨hcp.cps,mY hcp (uY hx hy (by have hxy:=jO hx0 hy0;omega) (by omega))⟩
 refine cY (fun w hm=>(aG 2 A w hm).one) (fun ho2=>?_)
 refine aZ 6 [4,1,2,3] A A (by decide) ?_
 refine cB 2 A ?_
 refine aZ 3 [2,0,1] A A (by decide) ?_
 exact bV (rs:=[.cell 6 28,.tmp 7]) (vs:=[.agg #[jI m.ins,m.sv,m.av,m.ov],jI y]) (post:=[rS9 46 3 m.sv m.ss sqC,bigE [bigE ps,rS9 67 2 m.av m.gs anC]]) A ⟨⟨b2,0,[jI m.ins,m.sv,m.av,m.ov],A,A,by kernel_rfl,by kernel_rfl,aD 2 A 0 A⟩,A,trivial⟩ A (eJ [0,0] A) ⟨_,m,_,A,A,fun w hw=>⟨(hps w (aX hw cL)).1,bT (aX hw (dK cL)),(hps w (aX hw cL)).2⟩,⟨o1m,ho2,o3m⟩,hgp.1,hgp.2⟩
 refine aU 1 A (aS A (bY (aC (aC (bZ 1 A ?_)))))
 refine cM A A A A A A (fun h15=>?_) (fun h15=>?_)
 refine bR (aR A (cF (aP A (aF (cs:=[jI m.ins,m.sv,m.av,m.ov]) A A A A A (aD 0 A 0 A)) (aM 1 A ?_))))
 refine bI (cs':=#[jI m.ins,m.sv,m.av,m.ov]) (i:=4) (off:=0) (us:=[jI m.ins,m.sv,m.av,m.ov]) A A A A A A A (aA A (aA o1m (aA ho7 (aA o3m bA)))) A A A (aU 1 A ?_)
 refine aV (aL ?_)
 have hgp:CpS n (m)∧OpS n (m) (andO n.fst n.gs x y) (x):=⟨hcp.cps,mY hcp (Er hx hy (by have hxy:=jO hx0 hy0;omega) (by omega) (by omega))⟩
 refine cY (fun w hm=>(aG 2 A w hm).one) (fun ho2=>?_)
 refine aZ 6 [4,1,2,3] A A (by decide) ?_
 refine cB 2 A ?_
 refine aZ 3 [2,0,1] A A (by decide) ?_
 exact bV (rs:=[.cell 6 28,.tmp 7]) (vs:=[.agg #[jI m.ins,m.sv,m.av,m.ov],jI x]) (post:=[rS9 46 3 m.sv m.ss sqC,bigE [bigE ps,rS9 67 2 m.av m.gs anC]]) A ⟨⟨b2,0,[jI m.ins,m.sv,m.av,m.ov],A,A,by kernel_rfl,by kernel_rfl,aD 2 A 0 A⟩,A,trivial⟩ A (eJ [0,0] A) ⟨_,m,_,A,A,fun w hw=>⟨(hps w (aX hw cL)).1,bT (aX hw (dK cL)),(hps w (aX hw cL)).2⟩,⟨o1m,ho2,o3m⟩,hgp.1,hgp.2⟩
 refine bR (aS A (bY (aC (bZ 2 A (aP A (oH A A A) (aM 2 A (aP A (tP A A A) (aP A (dQ (cs:=#[jI (min x y),jI (if x<y then y else x)]) A A A) ?_))))))))
 refine cR A (bP (z:=.agg #[jI 0,jI 0]) A A) ?_
 intro b16
 refine bI (cs':=#[jI (min x y),jI (if x<y then y else x)]) (i:=0) (off:=0) (us:=[jI (min x y),jI (if x<y then y else x)]) A A A A A A A (aA A (aA A bA)) A A A (bR (aC (bD 1 A (bE ?_))))
 refine hO (α:=Nat) [0,1,2,3,6,7,8,9,10,30,43,51,55] A (fun i=>[boxE b16 #[jI (min x y),jI (if x<y then y else x)] 67,nB9 b6 m,rS9 46 3 m.sv m.ss sqC,rS9 67 2 m.av m.gs anC,bigE ps,eB9 b2,nB9 b1 n]) (fun i=>[(11,jI (i:Int))]) (fun i=>i≤n.gs.length∧∀q,q<i→¬((n.gs.getD q an0).a=min x y∧(n.gs.getD q an0).b=max x y)) (fun i=>n.gs.length-i) 0 ⟨Nat.zero_le _,fun q hq=>absurd hq (Nat.not_lt_zero _)⟩ (cT A) (dS A) ?_
 intro i hi17
 obtain⟨hi,hno⟩:=hi17
 refine aC (aC (bZ 1 A (aP A (cQ 2 A A A) (aP A (aN A A A (aH 6 A A)) (aP A (bC A Tryz.underlying25 A (aE hr.an)) ?_)))))
 refine bQ A A A A A A (fun h18=>?_) (fun h18=>?_)
 refine bR (aR A (bY (fM (aC ?_))))
 refine cJ 7 [[],[0],[],[1,2],[3],[],[4,5]] [72,73,74,75,76,77,78] [.pointer (some ⟨b1,0+2,none⟩),n.av,jI (i:Int),elP n.av ((i:Int).toNat*2),.agg #[jI ((n.gs.getD i an0).a),jI ((n.gs.getD i an0).b)],.agg #[jI (min x y),jI (if x<y then y else x)],.bool (eqA ((n.gs.getD i an0).a) ((n.gs.getD i an0).b) (min x y) (if x<y then y else x))] (by kernel_rfl) A ?_ ?_
 exact⟨bK A (cQ 2 A A A) A,bK A (aN A A A (aH 6 A A)) A,bK A (aK A) A,bK A (dF 2 A A A A (aE hr.an)) A,bK A (eI (us:=[jI ((n.gs.getD i an0).a),jI ((n.gs.getD i an0).b)]) A A A A (aE hr.an) (by omega) A (fC anC 2 (fun _=>A) n.gs an0 (show i<_ by omega) A)) A,bK A (aF (cs:=[jI (min x y),jI (if x<y then y else x)]) A A A A A (aD 0 A 0 A)) A,bK A (tQ A A A) A,trivial⟩
 simp only[List.drop_succ_cons,List.drop_zero]
 refine bR ?_
 refine fU A (fun h19=>?_) (fun h19=>?_)
 obtain⟨hq1,hq2⟩:=Ah h19
 refine aC (eE 7 [6,4,3,2,1,0,5] A A (by decide) ?_)
 refine eF (l:=[boxE b16 #[jI (min x y),jI (if x<y then y else x)] 67,nB9 b6 m,rS9 46 3 m.sv m.ss sqC,rS9 67 2 m.av m.gs anC,bigE ps,nB9 b1 n]) A 7 [0,1,2,3,4,5,6] (List.take 7 _) (List.drop 7 _) [[],[],[1],[],[2,3],[4],[0]] [some 79,some 80,some 81,some 82,some 83,some 84,none] (fun i_ vs_ v_ p_=>match i_ with|0=>v_=.agg #[jI m.ins,m.sv,m.av,m.ov]∧p_=[]|1=>v_=.agg #[jI n.ins,n.sv,n.av,n.ov]∧p_=[]|2=>v_=jI n.fst∧p_=[]|3=>v_=jI (i:Int)∧p_=[]|4=>v_=jI (n.fst+(i:Int))∧p_=[]|5=>v_=jI (2*(n.fst+(i:Int)))∧p_=[]|6=>p_=[nB9 b2 m]|_=>True) [[],[],[1],[],[2,3],[4],[0]] [none,none,none,none,none,none,some 8] [[eB9 b2]] [0,1,2,3,4,5,6] 8 (List.take_append_drop 7 _).symm (by kernel_rfl) (by kernel_rfl) (by kernel_rfl) A A ?_ ?_
 refine⟨?_,?_,?_,?_,?_,?_,?_,trivial⟩
 intro vf pf hmu hR
 refine bL [] [] A (aW (aI [8] A) (List.sublist_append_right _ _) ?_)
 exact aT (aF (cs:=[jI m.ins,m.sv,m.av,m.ov]) A A A A A (aD 1 A 0 A))
 intro vf pf hmu hR
 refine bL [] [] A (aW (aI [3] A) (List.sublist_append_right _ _) ?_)
 exact aT (aF (cs:=[jI n.ins,n.sv,n.av,n.ov]) A A A A A (aD 5 A 0 A))
 intro vf pf hmu hR
 have e1:=hR 1 (by decide)
 refine bL [1] [1] A (aW (sk 80 (congrArg some e1.1) (aB _)) (List.sublist_append_right _ _) ?_)
 exact(aJ A A (fun w hm=>aY (dD n w (hr.below hm.bel) hn)))
 intro vf pf hmu hR
 refine bL [] [] A (bH (aI [11] A) ?_)
 exact aT (aK A)
 intro vf pf hmu hR
 have e2:=hR 2 (by decide)
 have e3:=hR 3 (by decide)
 refine bL [2,3] [2,3] A (bH (sk 81 (congrArg some e2.1) (sk 82 (congrArg some e3.1) (aB _))) ?_)
 exact aT (dM A A A)
 intro vf pf hmu hR
 have e4:=hR 4 (by decide)
 refine bL [4] [4] A (bH (sk 83 (congrArg some e4.1) (aB _)) ?_)
 exact aT (fO A A A (by constructor<;>omega))
 intro vf pf hmu hR
 have e0:=hR 0 (by decide)
 refine Or.inl ⟨A,?_⟩
 show RunM _ _ _ (pf 8) (([0]:List Nat).flatMap pf++_) (envOf3 _ vf [0]++_) _ _
 have hmu0:pf 8=[eB9 b2]:=hmu 0 (show 0<1 by omega)
 rw[hmu0]
 exact cV (sk 6 A (sk 79 (congrArg some e0.1) (aB _))) (by simp only[e0.2,fS]<;>rfl) (fD (dR (us:=[jI m.ins,m.sv,m.av,m.ov]) (off:=0) 0 A A A A A A (aA A (aA o1m (aA ho7 (aA o3m bA)))) A A) (fun v_ p_ h=>by show p_=[nB9 b2 m];exact h))
 intro vf pf hmu hR
 have e5:=hR 5 (by decide)
 have e6:(pf 6)=[nB9 b2 m]:=hR 6 (by decide)
 have pE6:=e6
 have q0:=hR 0 (by decide)
 have q1:=hR 1 (by decide)
 have q2:=hR 2 (by decide)
 have q3:=hR 3 (by decide)
 have q4:=hR 4 (by decide)
 have q5:=hR 5 (by decide)
 refine cE (bO [78,69,55,51,43,30,11,10,9,8,7,6,3,2,1,0] _ (sk 84 (congrArg some e5.1) (aB _)) A) (by simp only[pE6,q0.2,q1.2,q2.2,q3.2,q4.2,q5.2,fS]<;>rfl) ?_
 simp only[List.drop_succ_cons,List.drop_zero]
 refine aU 1 A ?_
 refine aV (aQ ?_)
 refine fL ?_
 refine aQ (aL ?_)
 have hgp:CpS n (m)∧OpS n (m) (andO n.fst n.gs x y) (2*(n.fst+(i:Int))):=⟨hcp.cps,mY hcp (xF hx hy (by have hxy:=jO hx0 hy0;omega) (by omega) (by omega) (by omega) ⟨hq1,by rw[hq2];exact hmx⟩ hno)⟩
 refine cY (fun w hm=>(aG 4 A w hm).one) (fun ho2=>?_)
 refine aZ 7 [3,0,4,5] A A (by decide) ?_
 refine cB 2 A ?_
 refine aZ 3 [1,0,2] A A (by decide) ?_
 exact bV (rs:=[.cell 6 28,.tmp 7]) (vs:=[.agg #[jI m.ins,m.sv,m.av,m.ov],jI (2*(n.fst+(i:Int)))]) (post:=[rS9 46 3 m.sv m.ss sqC,bigE [bigE ps,rS9 67 2 m.av m.gs anC]]) A ⟨⟨b2,0,[jI m.ins,m.sv,m.av,m.ov],A,A,by kernel_rfl,by kernel_rfl,aD 2 A 0 A⟩,A,trivial⟩ A (eJ [0,0] A) ⟨_,m,_,A,A,fun w hw=>⟨(hps w (aX hw cL)).1,bT (aX hw (dK cL)),(hps w (aX hw cL)).2⟩,⟨o1m,ho2,o3m⟩,hgp.1,hgp.2⟩
 have hqn:=Ee h19
 refine fP (cK (bZ 1 A (aP A (dM A A A) (dJ 1 A ?_))))
 exact cU (i+1) ⟨by omega,fun q hq=>by by_cases e9:q=i;(subst e9;exact fun h9=>hqn ⟨h9.1,by rw[h9.2,hmx]⟩);exact hno q (by omega)⟩ (by omega) (cT rfl) (dS rfl)
 refine bR (aS A ?_)
 refine bM (dI ?_)
 refine aO (bF (eP (aP A (cQ 2 A A A) (aP A (aN A A A (aH 6 A A)) (aP A (bC A Tryz.underlying25 A (aE hr.an)) ?_)))))
 refine cM A A A A A A (fun h20=>?_) (fun h20=>?_)
 refine bR (aR A (cF (aP A (aF (cs:=[jI m.ins,m.sv,m.av,m.ov]) A A A A A (aD 1 A 0 A)) ?_)))
 refine bI (cs':=#[jI m.ins,m.sv,m.av,m.ov]) (i:=5) (off:=0) (us:=[jI m.ins,m.sv,m.av,m.ov]) A A A A A A A (aA A (aA o1m (aA ho7 (aA o3m bA)))) A A A (aU 1 A ?_)
 refine aV (aL ?_)
 have hgp:CpS n (m)∧OpS n (m) (andO n.fst n.gs x y) (-1):=⟨hcp.cps,yF hcp (by first|exact gA (fun h9=>absurd h9.1 (by assumption))|exact gA (fun h9=>absurd h9.2 (by assumption))|exact mJ hx hy (by have hxy:=jO hx0 hy0;omega) (by omega) (by omega) (fun q hq=>hno q (by omega)) (by omega)) (by omega)⟩
 refine cY (fun w hm=>(aG 3 A w hm).one) (fun ho2=>?_)
 refine aZ 7 [5,2,3,4] A A (by decide) ?_
 refine cB 2 A ?_
 refine aZ 3 [2,0,1] A A (by decide) ?_
 exact bV (rs:=[.cell 6 28,.tmp 7]) (vs:=[.agg #[jI m.ins,m.sv,m.av,m.ov],jI (-1)]) (post:=[rS9 46 3 m.sv m.ss sqC,bigE [bigE ps,rS9 67 2 m.av m.gs anC]]) A ⟨⟨b2,0,[jI m.ins,m.sv,m.av,m.ov],A,A,by kernel_rfl,by kernel_rfl,aD 2 A 0 A⟩,A,trivial⟩ A (eJ [0,0] A) ⟨_,m,_,A,A,fun w hw=>⟨(hps w (aX hw cL)).1,bT (aX hw (dK cL)),(hps w (aX hw cL)).2⟩,⟨o1m,ho2,o3m⟩,hgp.1,hgp.2⟩
 refine bR (aS A (bY (cF (aP A (cQ 2 A A A) (aP A (aN A A A (aH 1 A A)) (aP A (aF (cs:=[jI (min x y),jI (if x<y then y else x)]) A A A A A (aD 0 A 0 A)) ?_))))))
 refine dP A (bB (z:=.agg #[jI 0,jI 0]) (s:=2) (cs:=(mI [min x y,(if x<y then y else x)])) A Tryz.underlying25 A (by decide) A (by kernel_rfl) A) ?_
 intro g21
 refine cW (i:=4) (z:=.agg #[jI 0,jI 0]) (bytes:=16) A A A A Tryz.underlying25 (by kernel_rfl) A A A A (aG 0 A) (cO _) (by first|omega|(simp only[List.length_append,List.length_cons,List.length_nil];omega)) (cH m.gs [(An.mk (min x y) (if x<y then y else x))]) (dY anC m.gs (An.mk (min x y) (if x<y then y else x)) _ A) (fun _=>A) ?_
 intro v22
 refine aP A (cQ 2 A A A) (dZ (i:=4) A (fun ho23=>?_))
 refine fI (i:=2) (cs':=#[jI m.ins,m.sv,v22,m.ov]) A A A A A A ho23 A A A A (bR (cF (aP A (aF (cs:=[jI m.ins,m.sv,v22,m.ov]) A A A A A (aD 2 A 0 A)) (aM 1 A (aP A (fO A A A (by constructor<;>omega)) ?_)))))
 refine bI (cs':=#[jI m.ins,m.sv,v22,m.ov]) (i:=6) (off:=0) (us:=[jI m.ins,m.sv,v22,m.ov]) A A A A A A A (aA A (aA o1m (aA ho23 (aA o3m bA)))) A A A (aU 1 A ?_)
 refine aV ?_
 have hgp:CpS n ({ m with av:=v22,gs:=m.gs++[(An.mk (min x y) (if x<y then y else x))] })∧OpS n ({ m with av:=v22,gs:=m.gs++[(An.mk (min x y) (if x<y then y else x))] }) (andO n.fst n.gs x y) (2*n.cnt):=⟨⟨hcp.ins,hcp.os,hcp.ss⟩,.inl (by rw[show(2*n.cnt)=2*(n.fst+(n.gs.length:Int)) by omega];dsimp only;rw[hcp.gs,hmx];exact xE hx hy (by have hxy:=jO hx0 hy0;omega) (by omega) (by omega) (fun q hq=>hno q (by omega)) (by omega))⟩
 refine cY (fun w hm=>(aG 4 A w hm).one) (fun ho2=>?_)
 refine aZ 8 [6,3,4,5] A A (by decide) ?_
 refine cB 2 A ?_
 refine aZ 3 [2,0,1] A A (by decide) ?_
 exact bV (rs:=[.cell 6 28,.tmp 7]) (vs:=[.agg #[jI m.ins,m.sv,v22,m.ov],jI (2*n.cnt)]) (post:=[rS9 46 3 m.sv m.ss sqC,bigE [bigE ps,rowE 67 2 v22 ((m.gs++[(An.mk (min x y) (if x<y then y else x))]).length) ((m.gs++[(An.mk (min x y) (if x<y then y else x))]).flatMap anC)]]) A ⟨⟨b2,0,[jI m.ins,m.sv,v22,m.ov],A,A,by kernel_rfl,by kernel_rfl,aD 2 A 0 A⟩,A,trivial⟩ A (eJ [0,0] A) ⟨_,{ m with av:=v22,gs:=m.gs++[(An.mk (min x y) (if x<y then y else x))] },_,A,A,fun w hw=>⟨(hps w (aX hw cL)).1,bT (aX hw (dK cL)),(hps w (aX hw cL)).2⟩,⟨o1m,ho2,o3m⟩,hgp.1,hgp.2⟩
 have hyn:=of_decide_eq_false h9
 refine aU 2 A (aR A (cF (aP A (aF (cs:=[jI m.ins,m.sv,m.av,m.ov]) A A A A A (aD 0 A 0 A)) ?_)))
 refine bI (cs':=#[jI m.ins,m.sv,m.av,m.ov]) (i:=4) (off:=0) (us:=[jI m.ins,m.sv,m.av,m.ov]) A A A A A A A (aA A (aA o1m (aA ho7 (aA o3m bA)))) A A A (aU 1 A ?_)
 refine aV (aL ?_)
 have hgp:CpS n (m)∧OpS n (m) (andO n.fst n.gs x y) (-1):=⟨hcp.cps,yF hcp (by first|exact gA (fun h9=>absurd h9.1 (by assumption))|exact gA (fun h9=>absurd h9.2 (by assumption))|exact mJ hx hy (by have hxy:=jO hx0 hy0;omega) (by omega) (by omega) (fun q hq=>hno q (by omega)) (by omega)) (by omega)⟩
 refine cY (fun w hm=>(aG 2 A w hm).one) (fun ho2=>?_)
 refine aZ 6 [4,1,2,3] A A (by decide) ?_
 refine cB 2 A ?_
 refine aZ 3 [2,0,1] A A (by decide) ?_
 exact bV (rs:=[.cell 6 28,.tmp 7]) (vs:=[.agg #[jI m.ins,m.sv,m.av,m.ov],jI (-1)]) (post:=[rS9 46 3 m.sv m.ss sqC,bigE [bigE ps,rS9 67 2 m.av m.gs anC]]) A ⟨⟨b2,0,[jI m.ins,m.sv,m.av,m.ov],A,A,by kernel_rfl,by kernel_rfl,aD 2 A 0 A⟩,A,trivial⟩ A (eJ [0,0] A) ⟨_,m,_,A,A,fun w hw=>⟨(hps w (aX hw cL)).1,bT (aX hw (dK cL)),(hps w (aX hw cL)).2⟩,⟨o1m,ho2,o3m⟩,hgp.1,hgp.2⟩
 have hxn:=of_decide_eq_false h8
 refine aU 8 A (aR A (cF (aP A (aF (cs:=[jI m.ins,m.sv,m.av,m.ov]) A A A A A (aD 0 A 0 A)) ?_)))
 refine bI (cs':=#[jI m.ins,m.sv,m.av,m.ov]) (i:=4) (off:=0) (us:=[jI m.ins,m.sv,m.av,m.ov]) A A A A A A A (aA A (aA o1m (aA ho7 (aA o3m bA)))) A A A (aU 1 A ?_)
 refine aV (aL ?_)
 have hgp:CpS n (m)∧OpS n (m) (andO n.fst n.gs x y) (-1):=⟨hcp.cps,yF hcp (by first|exact gA (fun h9=>absurd h9.1 (by assumption))|exact gA (fun h9=>absurd h9.2 (by assumption))|exact mJ hx hy (by have hxy:=jO hx0 hy0;omega) (by omega) (by omega) (fun q hq=>hno q (by omega)) (by omega)) (by omega)⟩
 refine cY (fun w hm=>(aG 2 A w hm).one) (fun ho2=>?_)
 refine aZ 6 [4,1,2,3] A A (by decide) ?_
 refine cB 2 A ?_
 refine aZ 3 [2,0,1] A A (by decide) ?_
 exact bV (rs:=[.cell 6 28,.tmp 7]) (vs:=[.agg #[jI m.ins,m.sv,m.av,m.ov],jI (-1)]) (post:=[rS9 46 3 m.sv m.ss sqC,bigE [bigE ps,rS9 67 2 m.av m.gs anC]]) A ⟨⟨b2,0,[jI m.ins,m.sv,m.av,m.ov],A,A,by kernel_rfl,by kernel_rfl,aD 2 A 0 A⟩,A,trivial⟩ A (eJ [0,0] A) ⟨_,m,_,A,A,fun w hw=>⟨(hps w (aX hw cL)).1,bT (aX hw (dK cL)),(hps w (aX hw cL)).2⟩,⟨o1m,ho2,o3m⟩,hgp.1,hgp.2⟩
theorem Ret.pool2 {w:World}{R R':Value→List HP→Prop}(h:∀u p,R u p→∃q r,p=[q,r]∧R' u [bigE [q,r]]):∀e w',Ret w R e w'→Ret w R' e w':=fun e w' ⟨v,post,h1,h2,h3⟩=>by
  obtain⟨q,r,rfl,h4⟩:=h v post h2
  exact⟨v,_,h1,h4,Mem.big (ps:=[q,r]) (l:=[]) h3⟩
theorem xO (n:Nt) (x y:Int) (w:World) (hr:RdsNt w n) (hn:NtOk n) (hxb:x<4294967296) (hyb:y<4294967296):Calls Tryz.prog 44 #[.agg #[.int .i64 n.ins,n.sv,n.av,n.ov],.int .i64 x,.int .i64 y] w (Ret w (fun u_ p_=>∃(ps:List HP) (m:Nt) (z:Int),u_=.tuple #[m.agg,.int .i64 z]∧p_=[bigE ps]∧(∀w,(bigE ps).holds w→RdsNt w m)∧(m.sv.oneCell'=true∧m.av.oneCell'=true∧m.ov.oneCell'=true)∧CpS n m∧OpS n m (andO n.fst n.gs x y) z)):=
  (iF n x y w hr hn hxb hyb).mono (Ret.pool2 fun u p ⟨ps,m,z,h1,h2,h3,h4,h5,h6⟩=>⟨_,_,h2,_,m,z,h1,rfl,fun w hw=>(h3 w (aX hw (List.mem_cons_of_mem _ List.mem_cons_self))).rds (bT (aX hw List.mem_cons_self)),h4,h5,h6⟩)
def blkOf (v:Value):Nat:=match v with | .pointer (some ⟨b,_,_⟩)=>b|_=>0
def tp9 (k:Nat) (v:Value):Value:=match v with | .tuple xs=>xs.getD k undef|_=>undef
def ag9 (k:Nat) (v:Value):Value:=match v with | .agg xs=>xs.getD k undef|_=>undef
theorem iW {a:Int}(h:a<4294967295):ntL a<4294967296:=by unfold ntL xr;split<;>(try split)<;>omega
theorem At (f:Int) (gs:List An) (a b:Int):andO f gs (ntL a) (ntL b)=andO f gs (xr a) (xr b):=by
  have hx:∀a:Int,a<0→xr a<0:=fun a h=>by unfold xr;split<;>omega
  by_cases ha:a<0
  · rw[gA (a:=ntL a) (fun h9=>by have h8:=h9.1.1;rw[pP ha] at h8;omega),gA (a:=xr a) (fun h9=>by have h8:=h9.1.1;have h7:=hx a ha;omega)]
  · by_cases hb : b < 0
    · rw[gA (a:=ntL a) (fun h9=>by have h8:=h9.2.1;rw[pP hb] at h8;omega),gA (a:=xr a) (fun h9=>by have h8:=h9.2.1;have h7:=hx b hb;omega)]
    · rw[nR (by omega),nR (by omega)]
theorem OpS.orr {n m:Nt}{a b z:Int}(h:OpS n m (andO n.fst n.gs (ntL a) (ntL b)) z) (hz:0≤z):OpS n m (orO n.fst n.gs a b) (xr z):=by
  rw[At] at h
  rcases h with h|h
  · exact .inl (by unfold orO;rw[h];rfl)
  · omega
theorem OpS.orn {n m m2:Nt}{a b z y:Int}(hn:NtOk n) (h:OpS n m (andO n.fst n.gs (ntL a) (ntL b)) z) (hz:z<0) (hc:m2.gs=n.gs) (hy:y<0):OpS n m2 (orO n.fst n.gs a b) y:=by
  rw[At] at h
  rcases h with h|h
  · have:=(jJ (r:=(m.gs,z)) (n:=n) hn h).lit.1;dsimp only at this;omega
  · exact .inr ⟨by unfold orO;rw[h.1];rfl,hy,hc⟩
theorem OpS.rng {n m:Nt}{a b z:Int}(hn:NtOk n) (h:OpS n m (andO n.fst n.gs a b) z):z<1000000:=by
  rcases h with h|h
  · have h1 := jJ (r := (m.gs, z)) (n := n) hn h
    have h2:=h1.lit.2
    have h3:=h1.ok.a1
    have h4:=hn.i1
    have h5:=hn.s1
    have h6:n.fst=1+n.ins+n.ss.length:=rfl
    have h7:m.gs.length≤300:=h3
    dsimp only at h2;omega
  · omega
theorem rQ (n:Nt) (a b:Int) (w:World) (hr:RdsNt w n) (hn:NtOk n) (hxb:a<4294967295) (hyb:b<4294967295) :
   Calls Tryz.prog 19 #[.agg #[.int .i64 n.ins,n.sv,n.av,n.ov],.int .i64 a,.int .i64 b] w (Ret w (fun u_ p_=>∃(ps:List HP) (m:Nt) (z:Int),u_=.tuple #[m.agg,.int .i64 z]∧p_=[rS9 46 3 m.sv m.ss sqC,bigE ps]∧(∀w,(bigE ps).holds w→NtRest w m)∧(m.sv.oneCell'=true∧m.av.oneCell'=true∧m.ov.oneCell'=true)∧CpS n m∧OpS n m (orO n.fst n.gs a b) z)):=by
 have hi0:=hn.i0
 have hi1:=hn.i1
 have hs1:=hn.s1
 have ha1:=hn.a1
 have ho1:=hn.o1
 have hcnt:n.cnt=1+n.ins+n.ss.length+n.gs.length:=rfl
 have hfst:n.fst=1+n.ins+n.ss.length:=rfl
 refine bN (N:=26) (args:=[.agg #[jI n.ins,n.sv,n.av,n.ov],jI a,jI b]) Tryz.func19 A A (cF ?_)
 refine cR A (cN A A) ?_
 intro b1
 refine cR A (bP (z:=.agg #[jI 0,.slice none 0 0,.slice none 0 0,.slice none 0 0]) A A) ?_
 intro b2
 refine aU 1 A (aC ?_)
 refine eF (l:=[eB9 b2,nB9 b1 n]) A 11 [0,1,2,3,4,5,6,7,8,9,10] (List.take 11 _) (List.drop 11 _) [[],[],[1],[],[3],[0,2,4],[5],[5,6],[5,6],[],[5,7,9]] [some 11,some 12,some 13,some 14,some 15,some 16,some 10,some 17,some 18,some 8,none] (fun i_ vs_ v_ p_=>match i_ with|0=>v_=.agg #[jI n.ins,n.sv,n.av,n.ov]∧p_=[]|1=>v_=jI a∧p_=[]|2=>v_=jI (ntL a)∧p_=[]|3=>v_=jI b∧p_=[]|4=>v_=jI (ntL b)∧p_=[]|5=>(fun u_ p_=>∃(ps:List HP) (m:Nt) (z:Int),u_=.tuple #[m.agg,jI z]∧p_=[rS9 46 3 m.sv m.ss sqC,bigE ps]∧(∀w,(bigE ps).holds w→NtRest w m)∧(m.sv.oneCell'=true∧m.av.oneCell'=true∧m.ov.oneCell'=true)∧CpS n m∧OpS n m (andO n.fst n.gs (ntL a) (ntL b)) z) v_ p_|6=>v_=.tuple #[.agg #[jI (intOf_o (ag9 0 (tp9 0 (gV9 vs_ 0)))),(ag9 1 (tp9 0 (gV9 vs_ 0))),(ag9 2 (tp9 0 (gV9 vs_ 0))),(ag9 3 (tp9 0 (gV9 vs_ 0)))],jI (intOf_o (tp9 1 (gV9 vs_ 0)))]∧p_=[]|7=>v_=.agg #[jI (intOf_o (ag9 0 (tp9 0 (gV9 vs_ 0)))),(ag9 1 (tp9 0 (gV9 vs_ 0))),(ag9 2 (tp9 0 (gV9 vs_ 0))),(ag9 3 (tp9 0 (gV9 vs_ 0)))]∧p_=[]|8=>v_=jI (intOf_o (tp9 1 (gV9 vs_ 0)))∧p_=[]|9=>IsBox #[jI 0,.slice none 0 0,.slice none 0 0,.slice none 0 0] 28 v_ p_|10=>p_=[boxE (blkOf (gV9 vs_ 2)) #[jI (intOf_o (ag9 0 (tp9 0 (gV9 vs_ 0)))),(ag9 1 (tp9 0 (gV9 vs_ 0))),(ag9 2 (tp9 0 (gV9 vs_ 0))),(ag9 3 (tp9 0 (gV9 vs_ 0)))] 28]|_=>True) [[],[],[1],[],[3],[0,2,4],[5],[5,6],[5,6],[],[5,7]] [none,none,none,none,none,none,none,none,none,none,some 9] [] [0,1,2,3,4,5,6,7,8,10] 12 (List.take_append_drop 11 _).symm (by kernel_rfl) (by kernel_rfl) (by kernel_rfl) A A ?_ ?_
 refine⟨?_,?_,?_,?_,?_,?_,?_,?_,?_,?_,?_,trivial⟩
 intro vf pf hmu hR
 refine bL [] [] A (aW (aI [3] A) (List.sublist_append_right _ _) ?_)
 exact aT (aF (cs:=[jI n.ins,n.sv,n.av,n.ov]) A A A A A (aD 1 A 0 A))
 intro vf pf hmu hR
 refine bL [] [] A (bH (aI [1] A) ?_)
 exact aT (aK A)
 intro vf pf hmu hR
 have e1:=hR 1 (by decide)
 refine bL [1] [1] A (aW (sk 12 (congrArg some e1.1) (aB _)) (List.sublist_append_right _ _) ?_)
 exact(aJ A A (fun w hm=>aY (kX a w (by omega))))
 intro vf pf hmu hR
 refine bL [] [] A (bH (aI [2] A) ?_)
 exact aT (aK A)
 intro vf pf hmu hR
 have e3:=hR 3 (by decide)
 refine bL [3] [3] A (aW (sk 14 (congrArg some e3.1) (aB _)) (List.sublist_append_right _ _) ?_)
 exact(aJ A A (fun w hm=>aY (kX b w (by omega))))
 intro vf pf hmu hR
 have e0:=hR 0 (by decide)
 have e2:=hR 2 (by decide)
 have e4:=hR 4 (by decide)
 refine bL [0,2,4] [0,2,4] A (aW (sk 11 (congrArg some e0.1) (sk 13 (congrArg some e2.1) (sk 15 (congrArg some e4.1) (aB _)))) (List.sublist_append_right _ _) ?_)
 exact aJ A A (fun w hm=>iF n (ntL a) (ntL b) w (hr.below hm.bel) hn (by first|omega|exact iW (by omega)) (by first|omega|exact iW (by omega)))
 intro vf pf hmu hR
 have e5:(fun u_ p_=>∃(ps:List HP) (m:Nt) (z:Int),u_=.tuple #[m.agg,jI z]∧p_=[rS9 46 3 m.sv m.ss sqC,bigE ps]∧(∀w,(bigE ps).holds w→NtRest w m)∧(m.sv.oneCell'=true∧m.av.oneCell'=true∧m.ov.oneCell'=true)∧CpS n m∧OpS n m (andO n.fst n.gs (ntL a) (ntL b)) z) (vf 5) (pf 5):=hR 5 (by decide)
 obtain⟨v3,vE5⟩:∃x,vf 5=x:=⟨_,rfl⟩
 obtain⟨p4,pE5⟩:∃x,pf 5=x:=⟨_,rfl⟩
 have R5:=e5
 rw[vE5,pE5] at R5
 obtain⟨ps5,m5,z5,rfl,rfl,hpm5,⟨o1mhR5,o2mhR5,o3mhR5⟩,cpm5,hom5⟩:=R5
 refine bL [5] [5] A (bU (sk 16 (congrArg some vE5) (aB _)) (by simp only[pE5,vE5,fS]<;>rfl) ?_)
 exact cD (aT (aK A)) (fun _ _ h=>⟨h.1.trans (by show _=(.tuple #[.agg #[jI (intOf_o (ag9 0 (tp9 0 (vf 5)))),(ag9 1 (tp9 0 (vf 5))),(ag9 2 (tp9 0 (vf 5))),(ag9 3 (tp9 0 (vf 5)))],jI (intOf_o (tp9 1 (vf 5)))]:Value);first|(rw[vE5];done)|(rw[vE5];rfl)),h.2⟩)
 intro vf pf hmu hR
 have e5:(fun u_ p_=>∃(ps:List HP) (m:Nt) (z:Int),u_=.tuple #[m.agg,jI z]∧p_=[rS9 46 3 m.sv m.ss sqC,bigE ps]∧(∀w,(bigE ps).holds w→NtRest w m)∧(m.sv.oneCell'=true∧m.av.oneCell'=true∧m.ov.oneCell'=true)∧CpS n m∧OpS n m (andO n.fst n.gs (ntL a) (ntL b)) z) (vf 5) (pf 5):=hR 5 (by decide)
 obtain⟨v3,vE5⟩:∃x,vf 5=x:=⟨_,rfl⟩
 obtain⟨p4,pE5⟩:∃x,pf 5=x:=⟨_,rfl⟩
 have R5:=e5
 rw[vE5,pE5] at R5
 obtain⟨ps5,m5,z5,rfl,rfl,hpm5,⟨o1mhR5,o2mhR5,o3mhR5⟩,cpm5,hom5⟩:=R5
 have e6:(vf 6)=.tuple #[.agg #[jI (intOf_o (ag9 0 (tp9 0 (vf 5)))),(ag9 1 (tp9 0 (vf 5))),(ag9 2 (tp9 0 (vf 5))),(ag9 3 (tp9 0 (vf 5)))],jI (intOf_o (tp9 1 (vf 5)))]∧(pf 6)=[]:=hR 6 (by decide)
 rw[vE5] at e6
 refine bL [5,6] [5,6] A (bU (sk 10 (congrArg some e6.1) (aB _)) (by simp only[pE5,vE5,e6.2,fS]<;>rfl) ?_)
 exact cD (aT (aK A)) (fun _ _ h=>⟨h.1.trans (by show _=(.agg #[jI (intOf_o (ag9 0 (tp9 0 (vf 5)))),(ag9 1 (tp9 0 (vf 5))),(ag9 2 (tp9 0 (vf 5))),(ag9 3 (tp9 0 (vf 5)))]:Value);first|(rw[vE5];done)|(rw[vE5];rfl)),h.2⟩)
 intro vf pf hmu hR
 have e5:(fun u_ p_=>∃(ps:List HP) (m:Nt) (z:Int),u_=.tuple #[m.agg,jI z]∧p_=[rS9 46 3 m.sv m.ss sqC,bigE ps]∧(∀w,(bigE ps).holds w→NtRest w m)∧(m.sv.oneCell'=true∧m.av.oneCell'=true∧m.ov.oneCell'=true)∧CpS n m∧OpS n m (andO n.fst n.gs (ntL a) (ntL b)) z) (vf 5) (pf 5):=hR 5 (by decide)
 obtain⟨v3,vE5⟩:∃x,vf 5=x:=⟨_,rfl⟩
 obtain⟨p4,pE5⟩:∃x,pf 5=x:=⟨_,rfl⟩
 have R5:=e5
 rw[vE5,pE5] at R5
 obtain⟨ps5,m5,z5,rfl,rfl,hpm5,⟨o1mhR5,o2mhR5,o3mhR5⟩,cpm5,hom5⟩:=R5
 have e6:(vf 6)=.tuple #[.agg #[jI (intOf_o (ag9 0 (tp9 0 (vf 5)))),(ag9 1 (tp9 0 (vf 5))),(ag9 2 (tp9 0 (vf 5))),(ag9 3 (tp9 0 (vf 5)))],jI (intOf_o (tp9 1 (vf 5)))]∧(pf 6)=[]:=hR 6 (by decide)
 rw[vE5] at e6
 refine bL [5,6] [5,6] A (bU (sk 10 (congrArg some e6.1) (aB _)) (by simp only[pE5,vE5,e6.2,fS]<;>rfl) ?_)
 exact cD (aT (aK A)) (fun _ _ h=>⟨h.1.trans (by show _=(jI (intOf_o (tp9 1 (vf 5))):Value);first|(rw[vE5];done)|(rw[vE5];rfl)),h.2⟩)
 intro vf pf hmu hR
 refine bL [] [] A (aW (aB _) (List.sublist_append_right _ _) ?_)
 exact bP (z:=.agg #[jI 0,.slice none 0 0,.slice none 0 0,.slice none 0 0]) A A
 intro vf pf hmu hR
 have e5:(fun u_ p_=>∃(ps:List HP) (m:Nt) (z:Int),u_=.tuple #[m.agg,jI z]∧p_=[rS9 46 3 m.sv m.ss sqC,bigE ps]∧(∀w,(bigE ps).holds w→NtRest w m)∧(m.sv.oneCell'=true∧m.av.oneCell'=true∧m.ov.oneCell'=true)∧CpS n m∧OpS n m (andO n.fst n.gs (ntL a) (ntL b)) z) (vf 5) (pf 5):=hR 5 (by decide)
 obtain⟨v3,vE5⟩:∃x,vf 5=x:=⟨_,rfl⟩
 obtain⟨p4,pE5⟩:∃x,pf 5=x:=⟨_,rfl⟩
 have R5:=e5
 rw[vE5,pE5] at R5
 obtain⟨ps5,m5,z5,rfl,rfl,hpm5,⟨o1mhR5,o2mhR5,o3mhR5⟩,cpm5,hom5⟩:=R5
 have e7:(vf 7)=.agg #[jI (intOf_o (ag9 0 (tp9 0 (vf 5)))),(ag9 1 (tp9 0 (vf 5))),(ag9 2 (tp9 0 (vf 5))),(ag9 3 (tp9 0 (vf 5)))]∧(pf 7)=[]:=hR 7 (by decide)
 rw[vE5] at e7
 have e9:IsBox #[jI 0,.slice none 0 0,.slice none 0 0,.slice none 0 0] 28 (vf 9) (pf 9):=hR 9 (by decide)
 obtain⟨b6,vE9,pE9⟩:=e9
 refine Or.inl ⟨A,?_⟩
 show RunM _ _ _ (pf 9) (([5,7]:List Nat).flatMap pf++_) (envOf3 _ vf [5,7,9]++_) _ _
 rw[pE9]
 exact cV (sk 8 (congrArg some vE9) (sk 17 (congrArg some e7.1) (aB _))) (by simp only[pE5,vE5,e7.2,fS]<;>rfl) (fD (dR (us:=[jI m5.ins,m5.sv,m5.av,m5.ov]) (off:=0) 0 A A A A A A (aA A (aA o1mhR5 (aA o2mhR5 (aA o3mhR5 bA)))) A A) (fun v_ p_ h=>by show p_=[boxE (blkOf (vf 9)) #[jI (intOf_o (ag9 0 (tp9 0 (vf 5)))),(ag9 1 (tp9 0 (vf 5))),(ag9 2 (tp9 0 (vf 5))),(ag9 3 (tp9 0 (vf 5)))] 28];rw[vE5,vE9];exact h))
 intro vf pf hmu hR
 have e5:(fun u_ p_=>∃(ps:List HP) (m:Nt) (z:Int),u_=.tuple #[m.agg,jI z]∧p_=[rS9 46 3 m.sv m.ss sqC,bigE ps]∧(∀w,(bigE ps).holds w→NtRest w m)∧(m.sv.oneCell'=true∧m.av.oneCell'=true∧m.ov.oneCell'=true)∧CpS n m∧OpS n m (andO n.fst n.gs (ntL a) (ntL b)) z) (vf 5) (pf 5):=hR 5 (by decide)
 obtain⟨v3,vE5⟩:∃x,vf 5=x:=⟨_,rfl⟩
 obtain⟨p4,pE5⟩:∃x,pf 5=x:=⟨_,rfl⟩
 have R5:=e5
 rw[vE5,pE5] at R5
 obtain⟨ps5,m5,z5,rfl,rfl,hpm5,⟨o1mhR5,o2mhR5,o3mhR5⟩,cpm5,hom5⟩:=R5
 have e8:(vf 8)=jI (intOf_o (tp9 1 (vf 5)))∧(pf 8)=[]:=hR 8 (by decide)
 rw[vE5] at e8
 have e9:IsBox #[jI 0,.slice none 0 0,.slice none 0 0,.slice none 0 0] 28 (vf 9) (pf 9):=hR 9 (by decide)
 obtain⟨b6,vE9,pE9⟩:=e9
 have e10:(pf 10)=[boxE (blkOf (vf 9)) #[jI (intOf_o (ag9 0 (tp9 0 (vf 5)))),(ag9 1 (tp9 0 (vf 5))),(ag9 2 (tp9 0 (vf 5))),(ag9 3 (tp9 0 (vf 5)))] 28]:=hR 10 (by decide)
 rw[vE5,vE9] at e10
 have pE10:=e10
 have q0:=hR 0 (by decide)
 have q1:=hR 1 (by decide)
 have q2:=hR 2 (by decide)
 have q3:=hR 3 (by decide)
 have q4:=hR 4 (by decide)
 have q6:=hR 6 (by decide)
 have q7:=hR 7 (by decide)
 have q8:=hR 8 (by decide)
 refine cE (bO [7,6,3,2,1,0] _ (sk 8 (congrArg some vE9) (sk 18 (congrArg some e8.1) (aB _))) A) (by simp only[pE5,vE5,pE10,q0.2,q1.2,q2.2,q3.2,q4.2,q6.2,q7.2,q8.2,fS]<;>rfl) ?_
 simp only[List.drop_succ_cons,List.drop_zero]
 refine aU 1 A (aC (aC (bZ 1 A ?_)))
 refine bQ A A A A A A (fun h7=>?_) (fun h7=>?_)
 refine bR (aR A (cF ?_))
 have hz9:z5<0:=by assumption
 refine aP A (aF (cs:=[jI n.ins,n.sv,n.av,n.ov]) A A A A A (aD 4 A 0 A)) (eB A A A (aJ A A (fun w hm=>fA n w (hr.below hm.bel) hn)) ?_)
 intro v8 p9 R10
 obtain⟨ps,m,rfl,rfl,hps,⟨o1m,o3m⟩,hcp⟩:=R10
 refine iA (fun w hm=>(aG 1 A w hm).one) (fun ho2=>?_)
 refine dZ (i:=1) A (fun ho11=>?_)
 refine bI (cs':=#[jI m.ins,m.sv,m.av,m.ov]) (i:=6) (off:=0) (us:=[jI m.ins,m.sv,m.av,m.ov]) A A A A A A A (aA A (aA o1m (aA ho11 (aA o3m bA)))) A A A (aU 1 A ?_)
 refine aV (aL ?_)
 refine aZ 8 [6,0,1,2] A A (by decide) ?_
 refine cB 2 A ?_
 refine aZ 3 [2,0,1] A A (by decide) ?_
 exact bV (rs:=[.cell 6 28,.tmp 7]) (vs:=[.agg #[jI m.ins,m.sv,m.av,m.ov],jI (-1)]) (post:=[rS9 46 3 m.sv m.ss sqC,bigE [bigE ps,rS9 67 2 m.av m.gs anC]]) A ⟨⟨b2,0,[jI m.ins,m.sv,m.av,m.ov],A,A,by kernel_rfl,by kernel_rfl,aD 2 A 0 A⟩,A,trivial⟩ A (eJ [0,0] A) ⟨_,m,_,A,A,fun w hw=>⟨(hps w (aX hw cL)).1,bT (aX hw (dK cL)),(hps w (aX hw cL)).2⟩,⟨o1m,ho2,o3m⟩,hcp.cps,.orn hn hom5 (by omega) hcp.gs (by omega)⟩
 refine bR (aS A (bY (cF ?_)))
 have hz9:¬z5<0:=by first|assumption|exact Int.not_lt.2 (by assumption)
 refine aP A (aF (cs:=[jI m5.ins,m5.sv,m5.av,m5.ov]) A A A A A (aD 2 A 0 A)) (aM 1 A (aP A (cP A (by decide) A A (r:=xr z5) (iB (by omega) (by have h9:=OpS.rng hn hom5;omega))) ?_))
 refine bI (cs':=#[jI m5.ins,m5.sv,m5.av,m5.ov]) (i:=3) (off:=0) (us:=[jI m5.ins,m5.sv,m5.av,m5.ov]) A A A A A A A (aA A (aA o1mhR5 (aA o2mhR5 (aA o3mhR5 bA)))) A A A (aU 1 A ?_)
 refine aV (aZ 5 [3,1,0] A A (by decide) ?_)
 exact bV (rs:=[.cell 6 28,.tmp 7]) (vs:=[.agg #[jI m5.ins,m5.sv,m5.av,m5.ov],jI (xr z5)]) (post:=[rS9 46 3 m5.sv m5.ss sqC,bigE ps5]) A ⟨⟨b2,0,[jI m5.ins,m5.sv,m5.av,m5.ov],A,A,by kernel_rfl,by kernel_rfl,aD 2 A 0 A⟩,A,trivial⟩ A (eJ [0,0] A) ⟨ps5,m5,_,A,A,hpm5,⟨o1mhR5,o2mhR5,o3mhR5⟩,cpm5,.orr hom5 (by omega)⟩
theorem rP (n:Nt) (a b:Int) (w:World) (hr:RdsNt w n) (hn:NtOk n) (hxb:a<4294967295) (hyb:b<4294967295):Calls Tryz.prog 19 #[.agg #[.int .i64 n.ins,n.sv,n.av,n.ov],.int .i64 a,.int .i64 b] w (Ret w (fun u_ p_=>∃(ps:List HP) (m:Nt) (z:Int),u_=.tuple #[m.agg,.int .i64 z]∧p_=[bigE ps]∧(∀w,(bigE ps).holds w→RdsNt w m)∧(m.sv.oneCell'=true∧m.av.oneCell'=true∧m.ov.oneCell'=true)∧CpS n m∧OpS n m (orO n.fst n.gs a b) z)):=
  (rQ n a b w hr hn hxb hyb).mono (Ret.pool2 fun u p ⟨ps,m,z,h1,h2,h3,h4,h5,h6⟩=>⟨_,_,h2,_,m,z,h1,rfl,fun w hw=>(h3 w (aX hw (List.mem_cons_of_mem _ List.mem_cons_self))).rds (bT (aX hw List.mem_cons_self)),h4,h5,h6⟩)
def JnS (n y m:Nt) (o:Option (List An×Int)) (z:Int):Prop:=(CpS y m∧o=some (m.gs,z))∨(o=none∧z<0∧CpS n m∧m.gs=n.gs)
theorem jn_yes {n y m:Nt}{o:Option (List An×Int)}{z:Int}(hc:CpS y m) (h:OpS y m o z) (hz:¬z<0):JnS n y m o z:=by
  rcases h with h|h
  · exact .inl ⟨hc,h⟩
  · exact absurd h.2.1 hz
theorem jn_no {n y m m2:Nt}{p q z:Int}(hy:NtOk y) (h:OpS y m (orO y.fst y.gs p q) z) (hz:z<0) (hc:CopyOf n m2):JnS n y m2 (orO y.fst y.gs p q) (-1):=by
  rcases h with h|h
  · have:=(tW (r:=(m.gs,z)) (n:=y) hy h).lit.1;dsimp only at this;omega
  · exact .inr ⟨h.1,by omega,hc.cps,hc.gs⟩
theorem wG (n y:Nt) (p q:Int) (w:World) (hr:RdsNt w n) (hn:NtOk n) (hry:RdsNt w y) (hny:NtOk y) (hxb:p<4294967295) (hyb:q<4294967295) :
   Calls Tryz.prog 46 #[.agg #[.int .i64 n.ins,n.sv,n.av,n.ov],.agg #[.int .i64 y.ins,y.sv,y.av,y.ov],.int .i64 p,.int .i64 q] w (Ret w (fun u_ p_=>∃(ps:List HP) (m:Nt) (z:Int),u_=.tuple #[m.agg,.int .i64 z]∧p_=[bigE ps]∧(∀w,(bigE ps).holds w→RdsNt w m)∧(m.sv.oneCell'=true∧m.av.oneCell'=true∧m.ov.oneCell'=true)∧JnS n y m (orO y.fst y.gs p q) z)):=by
 have hi0:=hn.i0
 have hi1:=hn.i1
 have hs1:=hn.s1
 have ha1:=hn.a1
 have ho1:=hn.o1
 have hcnt:n.cnt=1+n.ins+n.ss.length+n.gs.length:=rfl
 have hfst:n.fst=1+n.ins+n.ss.length:=rfl
 refine bN (N:=25) (args:=[.agg #[jI n.ins,n.sv,n.av,n.ov],.agg #[jI y.ins,y.sv,y.av,y.ov],jI p,jI q]) Tryz.func46 A A (cF ?_)
 refine cR A (cN A A) ?_
 intro b1
 refine cR A (cN A A) ?_
 intro b2
 refine cR A (bP (z:=.agg #[jI 0,.slice none 0 0,.slice none 0 0,.slice none 0 0]) A A) ?_
 intro b3
 refine aU 1 A (cF (aP A (aF (cs:=[jI y.ins,y.sv,y.av,y.ov]) A A A A A (aD 1 A 0 A)) (aM 2 A ?_)))
 refine eB A A A (aJ A A (fun w hm=>rP y p q w (hry.below hm.bel) hny (by first|omega|exact iW (by omega)) (by first|omega|exact iW (by omega)))) ?_
 intro v4 p5 R6
 obtain⟨ps6,m6,z6,rfl,rfl,hpm6,⟨o1mhR6,o2mhR6,o3mhR6⟩,cpm6,hom6⟩:=R6
 refine aM 3 A (cR A (bP (z:=.agg #[jI 0,.slice none 0 0,.slice none 0 0,.slice none 0 0]) A A) ?_)
 intro b7
 refine bI (cs':=#[jI m6.ins,m6.sv,m6.av,m6.ov]) (i:=0) (off:=0) (us:=[jI m6.ins,m6.sv,m6.av,m6.ov]) A A A A A A A (aA A (aA o1mhR6 (aA o2mhR6 (aA o3mhR6 bA)))) A A A (aU 1 A (aC (aC (bZ 1 A ?_))))
 refine bQ A A A A A A (fun h8=>?_) (fun h8=>?_)
 refine bR (aR A (cF (aP A (aF (cs:=[jI n.ins,n.sv,n.av,n.ov]) A A A A A (aD 4 A 0 A)) ?_)))
 refine eB A A A (aJ A A (fun w hm=>fA n w (hr.below hm.bel) hn)) ?_
 intro v9 p10 R11
 obtain⟨ps,m,rfl,rfl,hps,⟨o1m,o3m⟩,hcp⟩:=R11
 refine iA (fun w hm=>(aG 1 A w hm).one) (fun ho2=>?_)
 refine dZ (i:=1) A (fun ho12=>?_)
 refine bI (cs':=#[jI m.ins,m.sv,m.av,m.ov]) (i:=5) (off:=0) (us:=[jI m.ins,m.sv,m.av,m.ov]) A A A A A A A (aA A (aA o1m (aA ho12 (aA o3m bA)))) A A A (aU 1 A ?_)
 refine aV (aL ?_)
 refine aZ 8 [5,1,2,0] A A (by decide) ?_
 refine cB 3 A ?_
 exact bV (rs:=[.cell 8 28,.tmp 9]) (vs:=[.agg #[jI m.ins,m.sv,m.av,m.ov],jI (-1)]) (post:=[bigE [rS9 46 3 m.sv m.ss sqC,bigE ps,rS9 67 2 m.av m.gs anC]]) A ⟨⟨b3,0,[jI m.ins,m.sv,m.av,m.ov],A,A,by kernel_rfl,by kernel_rfl,aD 1 A 0 A⟩,A,trivial⟩ A (eJ [0] A) ⟨_,m,_,A,A,fun w hw=>⟨bT (aX hw cL),(hps w (aX hw (dK cL))).1,bT (aX hw (dK (dK cL))),(hps w (aX hw (dK cL))).2⟩,⟨o1m,ho2,o3m⟩,jn_no hny hom6 (by omega) hcp⟩
 refine bR (aS A (bY (cF (aP A (aF (cs:=[jI m6.ins,m6.sv,m6.av,m6.ov]) A A A A A (aD 0 A 0 A)) (aM 1 A ?_)))))
 refine bI (cs':=#[jI m6.ins,m6.sv,m6.av,m6.ov]) (i:=2) (off:=0) (us:=[jI m6.ins,m6.sv,m6.av,m6.ov]) A A A A A A A (aA A (aA o1mhR6 (aA o2mhR6 (aA o3mhR6 bA)))) A A A (aU 1 A ?_)
 exact aV (bV (rs:=[.cell 8 28,.tmp 9]) (vs:=[.agg #[jI m6.ins,m6.sv,m6.av,m6.ov],jI z6]) (post:=[bigE ps6]) A ⟨⟨b3,0,[jI m6.ins,m6.sv,m6.av,m6.ov],A,A,by kernel_rfl,by kernel_rfl,aD 2 A 0 A⟩,A,trivial⟩ A (eJ [1] A) ⟨ps6,m6,_,A,A,hpm6,⟨o1mhR6,o2mhR6,o3mhR6⟩,jn_yes cpm6 hom6 (by omega)⟩)
theorem Ret.monoX {w:World}{R R':Value→List HP→Prop}(h:∀u p,R u p→R' u p):∀e w',Ret w R e w'→Ret w R' e w':=fun e w' ⟨v,post,h1,h2,h3⟩=>⟨v,post,h1,h v post h2,h3⟩
theorem CpS.copy {n m:Nt}(c:CpS n m):CopyOf (withG n m.gs) m:=⟨c.ins,rfl,c.os,c.ss⟩
theorem CpS.ok {n m:Nt}(c:CpS n m) (h:NtOk (withG n m.gs)):NtOk m:=c.copy.ok h
theorem CpS.fst {n m:Nt}(c:CpS n m):m.fst=n.fst:=c.copy.sk.fst
theorem CpS.refl (n:Nt):CpS n n:=⟨rfl,rfl,rfl⟩
theorem CpS.trans {a b c:Nt}(h:CpS a b) (k:CpS b c):CpS a c:=⟨k.ins.trans h.ins,k.os.trans h.os,k.ss.trans h.ss⟩
structure Gr (n m:Nt):Prop where
  cp:CpS n m
  ok:NtOk m
  le:n.gs.length≤m.gs.length
theorem Gr.refl {n:Nt}(h:NtOk n):Gr n n:=⟨CpS.refl n,h,Nat.le_refl _⟩
theorem Gr.trans {a b c:Nt}(h:Gr a b) (k:Gr b c):Gr a c:=⟨h.cp.trans k.cp,k.ok,Nat.le_trans h.le k.le⟩
theorem Gr.fst {n m:Nt}(h:Gr n m):m.fst=n.fst:=h.cp.fst
theorem gI (n:Nt):n.cnt=n.fst+n.gs.length:=rfl
theorem Gr.cnt {n m:Nt}(h:Gr n m):n.cnt≤m.cnt:=by rw[gI,gI,h.fst];have:=h.le;omega
theorem eX {n:Nt}(h:NtOk n):1≤n.cnt∧n.cnt≤400:=by
  have h1:=h.i0
  have h2:=h.i1
  have h3:=h.s1
  have h4:=h.a1
  have e:n.cnt=1+n.ins+n.ss.length+n.gs.length:=rfl
  omega
def ES {α:Type}(b:Prop) (o:Option α) (a:α):Prop:=(¬b∧o=some a)∨(b∧o=none)
section
variable {α β:Type}{b b0 b1:Prop}{o:Option α}{a:α}
theorem ES.bind {f:α→Option β}{c:β}(h:ES b0 o a) (k:¬b0→ES b1 (f a) c) (q:b0→b1):ES b1 (o.bind f) c:=by
  rcases h with⟨h1,rfl⟩|⟨h1,rfl⟩
  · exact k h1
  · exact .inr ⟨q h1,rfl⟩
theorem ES.pos (h:ES b o a) (k:¬b):o=some a:=h.elim (fun q=>q.2) (fun q=>absurd q.1 k)
theorem ES.neg (h:ES b o a) (k:b):o=none:=h.elim (fun q=>absurd k q.1) (fun q=>q.2)
theorem ES.yes (h:ES b o a) {r:α}(e:o=some r):¬b∧r=a:=by
  rcases h with⟨h1,h2⟩|⟨h1,h2⟩
  · rw[h2] at e;cases e;exact⟨h1,rfl⟩
  · rw[h2] at e;cases e
end
structure GtS (n m:Nt) (o:Option (List An×Int)) (z:Int):Prop where
  gr:Gr n m
  es:ES (z<0) o (m.gs,z)
  ln:z<2*m.cnt
theorem yV {n m:Nt}{o:Option (List An×Int)}{z:Int}{k:Nat}{f:List An×Int→(Int→Int)→Int}(hn:NtOk n) (c:CpS n m) (h:OpS n m o z) (hok:∀r,o=some r→AddOk n n.gs r.1 r.2 k (f r)):GtS n m o z:=by
  rcases h with e|⟨e,hz,hg⟩
  · have q := hok _ e
    have hl:=q.lit
    dsimp only at hl
    have e2:=gI m
    rw[c.fst] at e2
    exact⟨⟨c,c.ok q.ok,q.len.1⟩,.inl ⟨by have:=hl.1;omega,e⟩,by have:=hl.2;omega⟩
  · have hm : NtOk m := c.ok (by rw [hg]; exact hn)
    exact⟨⟨c,hm,by rw[hg];exact Nat.le_refl _⟩,.inr ⟨hz,e⟩,by have:=(eX hm).1;omega⟩
theorem fQ {n m:Nt}{a b z:Int}(hn:NtOk n) (c:CpS n m) (h:OpS n m (andO n.fst n.gs a b) z):GtS n m (andO n.fst n.gs a b) z:=yV (f:=fun _=>fAnd a b) hn c h (fun r e=>jJ (n:=n) hn e)
theorem Dy {n m:Nt}{a b z:Int}(hn:NtOk n) (c:CpS n m) (h:OpS n m (orO n.fst n.gs a b) z):GtS n m (orO n.fst n.gs a b) z:=yV (f:=fun _=>fOr a b) hn c h (fun r e=>tW (n:=n) hn e)
theorem Fw {n m:Nt}{a b z:Int}(hn:NtOk n) (c:CpS n m) (h:OpS n m (xorO n.fst n.gs a b) z):GtS n m (xorO n.fst n.gs a b) z:=yV (f:=fun _=>fXor a b) hn c h (fun r e=>zJ (n:=n) hn e)
theorem Cl {a:Int}(h:a<0):xr a<0:=by unfold xr;split<;>omega
theorem zT {a:Int}(h:a<0):ntL a<0:=by rw[pP h];omega
theorem tG {f:Int}{gs:List An}{a b:Int}(h:a<0):andO f gs a b=none:=gA (fun q=>by have:=q.1.1;omega)
theorem tF {f:Int}{gs:List An}{a b:Int}(h:b<0):andO f gs a b=none:=gA (fun q=>by have:=q.2.1;omega)
theorem Gl (f:Int) (gs:List An) (a b:Int):andO f gs a (ntL b)=andO f gs a (xr b):=by
  by_cases hb:b<0
  · rw[tF (zT hb),tF (Cl hb)]
  · rw[nR (by omega)]
theorem Gm (f:Int) (gs:List An) (a b:Int):andO f gs (ntL a) b=andO f gs (xr a) b:=by
  by_cases hb:a<0
  · rw[tG (zT hb),tG (Cl hb)]
  · rw[nR (by omega)]
theorem pr_sim {n m1 m2 m:Nt}{a b c e p q z:Int}(g1:GtS n m1 (andO n.fst n.gs a b) p) (g2:GtS m1 m2 (andO m1.fst m1.gs c e) q) (j:JnS n m2 m (orO m2.fst m2.gs p q) z):CpS n m∧OpS n m (prO n.fst n.gs a b c e) z:=by
  have f1:=g1.gr.fst
  have f2:=g2.gr.fst
  have hk:∀r,prO n.fst n.gs a b c e=some r→orO m2.fst m2.gs p q=some r:=fun r e0=>by
    unfold prO at e0
    obtain⟨s,e1,e2⟩:=tD e0
    obtain⟨u,e3,e4⟩:=tD e2
    obtain⟨-,rfl⟩:=g1.es.yes e1
    rw[←f1] at e3
    obtain⟨-,rfl⟩:=g2.es.yes e3
    rw[f2,f1];exact e4
  rcases j with⟨hc,ho⟩|⟨ho,hz,hc,hg⟩
  · refine ⟨(g1.gr.cp.trans g2.gr.cp).trans hc, .inl ?_⟩
    have hl:=qP ho
    have e1:=g1.es.pos (by have:=hl.1.1;omega)
    have e2:=g2.es.pos (by have:=hl.2.1;omega)
    unfold prO;rw[e1];show(andO n.fst m1.gs c e).bind _=_
    rw[←f1,e2];show orO m1.fst m2.gs p q=_
    rw[←f2];exact ho
  · refine ⟨hc, .inr ⟨?_, hz, hg⟩⟩
    cases h9:prO n.fst n.gs a b c e with
    | none=>rfl
    | some r=>rw[hk r h9] at ho;cases ho
theorem Ev {n m1 m2 m:Nt}{a b p q z:Int}(g1:GtS n m1 (andO n.fst n.gs a (ntL b)) p) (g2:GtS m1 m2 (andO m1.fst m1.gs (ntL a) b) q) (j:JnS n m2 m (orO m2.fst m2.gs p q) z):CpS n m∧OpS n m (xorO n.fst n.gs a b) z:=by
  rw[Gl] at g1;rw[Gm] at g2;exact pr_sim g1 g2 j
theorem zP {n m:Nt}{ps:List HP}{w:World}(h:m=n∨∀w,(bigE ps).holds w→RdsNt w m) (hr:RdsNt w n) (hp:(bigE ps).holds w):RdsNt w m:=by
  rcases h with rfl|h
  · exact hr
  · exact h w hp
abbrev GP9 (n:Nt) (o:Option (List An×Int)) (u_:Value) (p_:List HP):Prop:=∃(ps:List HP) (m:Nt) (z:Int),u_=.tuple #[m.agg,.int .i64 z]∧p_=[bigE ps]∧(∀w,(bigE ps).holds w→RdsNt w m)∧(m.sv.oneCell'=true∧m.av.oneCell'=true∧m.ov.oneCell'=true)∧GtS n m o z
theorem jW {a m:Int}(hm:1≤m) (h:a<2*m):ntL a<2*m:=by unfold ntL xr;split<;>(try split)<;>omega
theorem lW (n:Nt) (x y:Int) (w:World) (hr:RdsNt w n) (hn:NtOk n) (hx:x<2*n.cnt) (hy:y<2*n.cnt):Calls Tryz.prog 44 #[.agg #[.int .i64 n.ins,n.sv,n.av,n.ov],.int .i64 x,.int .i64 y] w (Ret w (fun u_ p_=>GP9 n (andO n.fst n.gs x y) u_ p_)):=
  (xO n x y w hr hn (by have:=eX hn;omega) (by have:=eX hn;omega)).mono (Ret.monoX fun u p ⟨ps,m,z,h1,h2,h3,h4,h5,h6⟩=>⟨ps,m,z,h1,h2,h3,h4,fQ hn h5 h6⟩)
theorem zI (n:Nt) (x y:Int) (w:World) (hr:RdsNt w n) (hn:NtOk n) (hx:x<2*n.cnt) (hy:y<2*n.cnt):Calls Tryz.prog 19 #[.agg #[.int .i64 n.ins,n.sv,n.av,n.ov],.int .i64 x,.int .i64 y] w (Ret w (fun u_ p_=>GP9 n (orO n.fst n.gs x y) u_ p_)):=
  (rP n x y w hr hn (by have:=eX hn;omega) (by have:=eX hn;omega)).mono (Ret.monoX fun u p ⟨ps,m,z,h1,h2,h3,h4,h5,h6⟩=>⟨ps,m,z,h1,h2,h3,h4,Dy hn h5 h6⟩)
theorem xN (n:Nt) (x y:Int) (w:World) (hr:RdsNt w n) (hn:NtOk n) (hx:x<2*n.cnt) (hy:y<2*n.cnt) :
   Calls Tryz.prog 18 #[.agg #[.int .i64 n.ins,n.sv,n.av,n.ov],.int .i64 x,.int .i64 y] w (Ret w (fun u_ p_=>GP9 n (xorO n.fst n.gs x y) u_ p_)):=by
 have hi0:=hn.i0
 have hi1:=hn.i1
 have hs1:=hn.s1
 have ha1:=hn.a1
 have ho1:=hn.o1
 have hcnt:n.cnt=1+n.ins+n.ss.length+n.gs.length:=rfl
 have hfst:n.fst=1+n.ins+n.ss.length:=rfl
 have hcr:=eX hn
 refine bN (N:=34) (args:=[.agg #[jI n.ins,n.sv,n.av,n.ov],jI x,jI y]) Tryz.func18 A A (cF ?_)
 refine cR A (cN A A) ?_
 intro b1
 refine cR A (bP (z:=.agg #[jI 0,.slice none 0 0,.slice none 0 0,.slice none 0 0]) A A) ?_
 intro b2
 refine aU 1 A (aC ?_)
 refine eF (l:=[eB9 b2,nB9 b1 n]) A 10 [0,1,2,3,4,5,6,7,8,9] (List.take 10 _) (List.drop 10 _) [[],[],[],[2],[0,1,3],[4],[4,5],[4,5],[],[4,6,8]] [some 12,some 13,some 14,some 15,some 16,some 11,some 17,some 18,some 8,none] (fun i_ vs_ v_ p_=>match i_ with|0=>v_=.agg #[jI n.ins,n.sv,n.av,n.ov]∧p_=[]|1=>v_=jI x∧p_=[]|2=>v_=jI y∧p_=[]|3=>v_=jI (ntL y)∧p_=[]|4=>(fun u_ p_=>GP9 n (andO n.fst n.gs x (ntL y)) u_ p_) v_ p_|5=>v_=.tuple #[.agg #[jI (intOf_o (ag9 0 (tp9 0 (gV9 vs_ 0)))),(ag9 1 (tp9 0 (gV9 vs_ 0))),(ag9 2 (tp9 0 (gV9 vs_ 0))),(ag9 3 (tp9 0 (gV9 vs_ 0)))],jI (intOf_o (tp9 1 (gV9 vs_ 0)))]∧p_=[]|6=>v_=.agg #[jI (intOf_o (ag9 0 (tp9 0 (gV9 vs_ 0)))),(ag9 1 (tp9 0 (gV9 vs_ 0))),(ag9 2 (tp9 0 (gV9 vs_ 0))),(ag9 3 (tp9 0 (gV9 vs_ 0)))]∧p_=[]|7=>v_=jI (intOf_o (tp9 1 (gV9 vs_ 0)))∧p_=[]|8=>IsBox #[jI 0,.slice none 0 0,.slice none 0 0,.slice none 0 0] 28 v_ p_|9=>p_=[boxE (blkOf (gV9 vs_ 2)) #[jI (intOf_o (ag9 0 (tp9 0 (gV9 vs_ 0)))),(ag9 1 (tp9 0 (gV9 vs_ 0))),(ag9 2 (tp9 0 (gV9 vs_ 0))),(ag9 3 (tp9 0 (gV9 vs_ 0)))] 28]|_=>True) [[],[],[],[2],[0,1,3],[4],[4,5],[4,5],[],[4,6]] [none,none,none,none,none,none,none,none,none,some 8] [] [0,1,2,3,4,5,6,7,9] 11 (List.take_append_drop 10 _).symm (by kernel_rfl) (by kernel_rfl) (by kernel_rfl) A A ?_ ?_
 refine⟨?_,?_,?_,?_,?_,?_,?_,?_,?_,?_,trivial⟩
 intro vf pf hmu hR
 refine bL [] [] A (aW (aI [3] A) (List.sublist_append_right _ _) ?_)
 exact aT (aF (cs:=[jI n.ins,n.sv,n.av,n.ov]) A A A A A (aD 1 A 0 A))
 intro vf pf hmu hR
 refine bL [] [] A (bH (aI [1] A) ?_)
 exact aT (aK A)
 intro vf pf hmu hR
 refine bL [] [] A (bH (aI [2] A) ?_)
 exact aT (aK A)
 intro vf pf hmu hR
 have e2:=hR 2 (by decide)
 refine bL [2] [2] A (aW (sk 14 (congrArg some e2.1) (aB _)) (List.sublist_append_right _ _) ?_)
 exact(aJ A A (fun w hm=>aY (kX y w (by omega))))
 intro vf pf hmu hR
 have e0:=hR 0 (by decide)
 have e1:=hR 1 (by decide)
 have e3:=hR 3 (by decide)
 refine bL [0,1,3] [0,1,3] A (aW (sk 12 (congrArg some e0.1) (sk 13 (congrArg some e1.1) (sk 15 (congrArg some e3.1) (aB _)))) (List.sublist_append_right _ _) ?_)
 exact aJ A A (fun w hm=>lW n x (ntL y) w (hr.below hm.bel) hn (by first|omega|exact jW (by omega) (by omega)) (by first|omega|exact jW (by omega) (by omega)))
 intro vf pf hmu hR
 have e4:(fun u_ p_=>GP9 n (andO n.fst n.gs x (ntL y)) u_ p_) (vf 4) (pf 4):=hR 4 (by decide)
 obtain⟨v3,vE4⟩:∃x,vf 4=x:=⟨_,rfl⟩
 obtain⟨p4,pE4⟩:∃x,pf 4=x:=⟨_,rfl⟩
 have R5:=e4
 rw[vE4,pE4] at R5
 obtain⟨ps5,m5,z5,rfl,rfl,hpm5,⟨o1mhR5,o2mhR5,o3mhR5⟩,gm5⟩:=R5
 have lm5:=gm5.ln
 have cm5:=gm5.gr.cnt
 have rm5:=eX gm5.gr.ok
 refine bL [4] [4] A (bU (sk 16 (congrArg some vE4) (aB _)) (by simp only[pE4,vE4,fS]<;>rfl) ?_)
 exact cD (aT (aK A)) (fun _ _ h=>⟨h.1.trans (by show _=(.tuple #[.agg #[jI (intOf_o (ag9 0 (tp9 0 (vf 4)))),(ag9 1 (tp9 0 (vf 4))),(ag9 2 (tp9 0 (vf 4))),(ag9 3 (tp9 0 (vf 4)))],jI (intOf_o (tp9 1 (vf 4)))]:Value);first|(rw[vE4];done)|(rw[vE4];rfl)),h.2⟩)
 intro vf pf hmu hR
 have e4:(fun u_ p_=>GP9 n (andO n.fst n.gs x (ntL y)) u_ p_) (vf 4) (pf 4):=hR 4 (by decide)
 obtain⟨v3,vE4⟩:∃x,vf 4=x:=⟨_,rfl⟩
 obtain⟨p4,pE4⟩:∃x,pf 4=x:=⟨_,rfl⟩
 have R5:=e4
 rw[vE4,pE4] at R5
 obtain⟨ps5,m5,z5,rfl,rfl,hpm5,⟨o1mhR5,o2mhR5,o3mhR5⟩,gm5⟩:=R5
 have lm5:=gm5.ln
 have cm5:=gm5.gr.cnt
 have rm5:=eX gm5.gr.ok
 have e5:(vf 5)=.tuple #[.agg #[jI (intOf_o (ag9 0 (tp9 0 (vf 4)))),(ag9 1 (tp9 0 (vf 4))),(ag9 2 (tp9 0 (vf 4))),(ag9 3 (tp9 0 (vf 4)))],jI (intOf_o (tp9 1 (vf 4)))]∧(pf 5)=[]:=hR 5 (by decide)
 rw[vE4] at e5
 refine bL [4,5] [4,5] A (bU (sk 11 (congrArg some e5.1) (aB _)) (by simp only[pE4,vE4,e5.2,fS]<;>rfl) ?_)
 exact cD (aT (aK A)) (fun _ _ h=>⟨h.1.trans (by show _=(.agg #[jI (intOf_o (ag9 0 (tp9 0 (vf 4)))),(ag9 1 (tp9 0 (vf 4))),(ag9 2 (tp9 0 (vf 4))),(ag9 3 (tp9 0 (vf 4)))]:Value);first|(rw[vE4];done)|(rw[vE4];rfl)),h.2⟩)
 intro vf pf hmu hR
 have e4:(fun u_ p_=>GP9 n (andO n.fst n.gs x (ntL y)) u_ p_) (vf 4) (pf 4):=hR 4 (by decide)
 obtain⟨v3,vE4⟩:∃x,vf 4=x:=⟨_,rfl⟩
 obtain⟨p4,pE4⟩:∃x,pf 4=x:=⟨_,rfl⟩
 have R5:=e4
 rw[vE4,pE4] at R5
 obtain⟨ps5,m5,z5,rfl,rfl,hpm5,⟨o1mhR5,o2mhR5,o3mhR5⟩,gm5⟩:=R5
 have lm5:=gm5.ln
 have cm5:=gm5.gr.cnt
 have rm5:=eX gm5.gr.ok
 have e5:(vf 5)=.tuple #[.agg #[jI (intOf_o (ag9 0 (tp9 0 (vf 4)))),(ag9 1 (tp9 0 (vf 4))),(ag9 2 (tp9 0 (vf 4))),(ag9 3 (tp9 0 (vf 4)))],jI (intOf_o (tp9 1 (vf 4)))]∧(pf 5)=[]:=hR 5 (by decide)
 rw[vE4] at e5
 refine bL [4,5] [4,5] A (bU (sk 11 (congrArg some e5.1) (aB _)) (by simp only[pE4,vE4,e5.2,fS]<;>rfl) ?_)
 exact cD (aT (aK A)) (fun _ _ h=>⟨h.1.trans (by show _=(jI (intOf_o (tp9 1 (vf 4))):Value);first|(rw[vE4];done)|(rw[vE4];rfl)),h.2⟩)
 intro vf pf hmu hR
 refine bL [] [] A (aW (aB _) (List.sublist_append_right _ _) ?_)
 exact bP (z:=.agg #[jI 0,.slice none 0 0,.slice none 0 0,.slice none 0 0]) A A
 intro vf pf hmu hR
 have e4:(fun u_ p_=>GP9 n (andO n.fst n.gs x (ntL y)) u_ p_) (vf 4) (pf 4):=hR 4 (by decide)
 obtain⟨v3,vE4⟩:∃x,vf 4=x:=⟨_,rfl⟩
 obtain⟨p4,pE4⟩:∃x,pf 4=x:=⟨_,rfl⟩
 have R5:=e4
 rw[vE4,pE4] at R5
 obtain⟨ps5,m5,z5,rfl,rfl,hpm5,⟨o1mhR5,o2mhR5,o3mhR5⟩,gm5⟩:=R5
 have lm5:=gm5.ln
 have cm5:=gm5.gr.cnt
 have rm5:=eX gm5.gr.ok
 have e6:(vf 6)=.agg #[jI (intOf_o (ag9 0 (tp9 0 (vf 4)))),(ag9 1 (tp9 0 (vf 4))),(ag9 2 (tp9 0 (vf 4))),(ag9 3 (tp9 0 (vf 4)))]∧(pf 6)=[]:=hR 6 (by decide)
 rw[vE4] at e6
 have e8:IsBox #[jI 0,.slice none 0 0,.slice none 0 0,.slice none 0 0] 28 (vf 8) (pf 8):=hR 8 (by decide)
 obtain⟨b6,vE8,pE8⟩:=e8
 refine Or.inl ⟨A,?_⟩
 show RunM _ _ _ (pf 8) (([4,6]:List Nat).flatMap pf++_) (envOf3 _ vf [4,6,8]++_) _ _
 rw[pE8]
 exact cV (sk 8 (congrArg some vE8) (sk 17 (congrArg some e6.1) (aB _))) (by simp only[pE4,vE4,e6.2,fS]<;>rfl) (fD (dR (us:=[jI m5.ins,m5.sv,m5.av,m5.ov]) (off:=0) 0 A A A A A A (aA A (aA o1mhR5 (aA o2mhR5 (aA o3mhR5 bA)))) A A) (fun v_ p_ h=>by show p_=[boxE (blkOf (vf 8)) #[jI (intOf_o (ag9 0 (tp9 0 (vf 4)))),(ag9 1 (tp9 0 (vf 4))),(ag9 2 (tp9 0 (vf 4))),(ag9 3 (tp9 0 (vf 4)))] 28];rw[vE4,vE8];exact h))
 intro vf pf hmu hR
 have e4:(fun u_ p_=>GP9 n (andO n.fst n.gs x (ntL y)) u_ p_) (vf 4) (pf 4):=hR 4 (by decide)
 obtain⟨v3,vE4⟩:∃x,vf 4=x:=⟨_,rfl⟩
 obtain⟨p4,pE4⟩:∃x,pf 4=x:=⟨_,rfl⟩
 have R5:=e4
 rw[vE4,pE4] at R5
 obtain⟨ps5,m5,z5,rfl,rfl,hpm5,⟨o1mhR5,o2mhR5,o3mhR5⟩,gm5⟩:=R5
 have lm5:=gm5.ln
 have cm5:=gm5.gr.cnt
 have rm5:=eX gm5.gr.ok
 have e7:(vf 7)=jI (intOf_o (tp9 1 (vf 4)))∧(pf 7)=[]:=hR 7 (by decide)
 rw[vE4] at e7
 have e8:IsBox #[jI 0,.slice none 0 0,.slice none 0 0,.slice none 0 0] 28 (vf 8) (pf 8):=hR 8 (by decide)
 obtain⟨b6,vE8,pE8⟩:=e8
 have e9:(pf 9)=[boxE (blkOf (vf 8)) #[jI (intOf_o (ag9 0 (tp9 0 (vf 4)))),(ag9 1 (tp9 0 (vf 4))),(ag9 2 (tp9 0 (vf 4))),(ag9 3 (tp9 0 (vf 4)))] 28]:=hR 9 (by decide)
 rw[vE4,vE8] at e9
 have pE9:=e9
 have q0:=hR 0 (by decide)
 have q1:=hR 1 (by decide)
 have q2:=hR 2 (by decide)
 have q3:=hR 3 (by decide)
 have q5:=hR 5 (by decide)
 have q6:=hR 6 (by decide)
 have q7:=hR 7 (by decide)
 refine cE (bO [7,6,3,2,1,0] _ (sk 8 (congrArg some vE8) (sk 18 (congrArg some e7.1) (aB _))) A) (by simp only[pE4,vE4,pE9,q0.2,q1.2,q2.2,q3.2,q5.2,q6.2,q7.2,fS]<;>rfl) ?_
 simp only[List.drop_succ_cons,List.drop_zero]
 refine aU 1 A (aC ?_)
 refine eE 4 [3,2,0,1] A A (by decide) ?_
 refine eF (l:=[bigE ps5,eB9 b2,nB9 b1 n]) A 9 [0,1,2,3,4,5,6,7,8] (List.take 9 _) (List.drop 9 _) [[],[],[1],[],[0,2,3],[4],[4,5],[4,5],[4,6]] [some 20,some 21,some 22,some 23,some 24,some 19,some 25,some 26,none] (fun i_ vs_ v_ p_=>match i_ with|0=>v_=.agg #[jI m5.ins,m5.sv,m5.av,m5.ov]∧p_=[]|1=>v_=jI x∧p_=[]|2=>v_=jI (ntL x)∧p_=[]|3=>v_=jI y∧p_=[]|4=>(fun u_ p_=>GP9 m5 (andO m5.fst m5.gs (ntL x) y) u_ p_) v_ p_|5=>v_=.tuple #[.agg #[jI (intOf_o (ag9 0 (tp9 0 (gV9 vs_ 0)))),(ag9 1 (tp9 0 (gV9 vs_ 0))),(ag9 2 (tp9 0 (gV9 vs_ 0))),(ag9 3 (tp9 0 (gV9 vs_ 0)))],jI (intOf_o (tp9 1 (gV9 vs_ 0)))]∧p_=[]|6=>v_=.agg #[jI (intOf_o (ag9 0 (tp9 0 (gV9 vs_ 0)))),(ag9 1 (tp9 0 (gV9 vs_ 0))),(ag9 2 (tp9 0 (gV9 vs_ 0))),(ag9 3 (tp9 0 (gV9 vs_ 0)))]∧p_=[]|7=>v_=jI (intOf_o (tp9 1 (gV9 vs_ 0)))∧p_=[]|8=>p_=[boxE b6 #[jI (intOf_o (ag9 0 (tp9 0 (gV9 vs_ 0)))),(ag9 1 (tp9 0 (gV9 vs_ 0))),(ag9 2 (tp9 0 (gV9 vs_ 0))),(ag9 3 (tp9 0 (gV9 vs_ 0)))] 28]|_=>True) [[10],[],[1],[],[0,2,3],[4],[4,5],[4,5],[4,6]] [none,none,none,none,none,none,none,none,some 10] [[nB9 b6 m5]] [0,1,2,3,4,5,6,7,8] 10 (List.take_append_drop 9 _).symm (by kernel_rfl) (by kernel_rfl) (by kernel_rfl) A A ?_ ?_
 refine⟨?_,?_,?_,?_,?_,?_,?_,?_,?_,trivial⟩
 intro vf pf hmu hR
 refine bL [10] [] A ?_
 have hmu0:pf 10=[nB9 b6 m5]:=hmu 0 (show 0<1 by omega)
 exact bU (aI [8] A) (by simp only[hmu0,fS]<;>rfl) (aT (aF (cs:=[jI m5.ins,m5.sv,m5.av,m5.ov]) A A A A A (aD 0 A 0 A)))
 intro vf pf hmu hR
 refine bL [] [] A (bH (aI [1] A) ?_)
 exact aT (aK A)
 intro vf pf hmu hR
 have e1:=hR 1 (by decide)
 refine bL [1] [1] A (aW (sk 21 (congrArg some e1.1) (aB _)) (List.sublist_append_right _ _) ?_)
 exact(aJ A A (fun w hm=>aY (kX x w (by omega))))
 intro vf pf hmu hR
 refine bL [] [] A (bH (aI [2] A) ?_)
 exact aT (aK A)
 intro vf pf hmu hR
 have e0:=hR 0 (by decide)
 have e2:=hR 2 (by decide)
 have e3:=hR 3 (by decide)
 refine bL [0,2,3] [0,2,3] A (aW (sk 20 (congrArg some e0.1) (sk 22 (congrArg some e2.1) (sk 23 (congrArg some e3.1) (aB _)))) (List.sublist_append_right _ _) ?_)
 exact aJ A A (fun w hm=>lW m5 (ntL x) y w (hpm5 w (hm.holds _ (bX (i:=0) A))) gm5.gr.ok (by first|omega|exact jW (by omega) (by omega)) (by first|omega|exact jW (by omega) (by omega)))
 intro vf pf hmu hR
 have e4:(fun u_ p_=>GP9 m5 (andO m5.fst m5.gs (ntL x) y) u_ p_) (vf 4) (pf 4):=hR 4 (by decide)
 obtain⟨v7,vE4⟩:∃x,vf 4=x:=⟨_,rfl⟩
 obtain⟨p8,pE4⟩:∃x,pf 4=x:=⟨_,rfl⟩
 have R9:=e4
 rw[vE4,pE4] at R9
 obtain⟨ps9,m9,z9,rfl,rfl,hpm9,⟨o1mhR9,o2mhR9,o3mhR9⟩,gm9⟩:=R9
 have lm9:=gm9.ln
 have cm9:=gm9.gr.cnt
 have rm9:=eX gm9.gr.ok
 refine bL [4] [4] A (bU (sk 24 (congrArg some vE4) (aB _)) (by simp only[pE4,vE4,fS]<;>rfl) ?_)
 exact cD (aT (aK A)) (fun _ _ h=>⟨h.1.trans (by show _=(.tuple #[.agg #[jI (intOf_o (ag9 0 (tp9 0 (vf 4)))),(ag9 1 (tp9 0 (vf 4))),(ag9 2 (tp9 0 (vf 4))),(ag9 3 (tp9 0 (vf 4)))],jI (intOf_o (tp9 1 (vf 4)))]:Value);first|(rw[vE4];done)|(rw[vE4];rfl)),h.2⟩)
 intro vf pf hmu hR
 have e4:(fun u_ p_=>GP9 m5 (andO m5.fst m5.gs (ntL x) y) u_ p_) (vf 4) (pf 4):=hR 4 (by decide)
 obtain⟨v7,vE4⟩:∃x,vf 4=x:=⟨_,rfl⟩
 obtain⟨p8,pE4⟩:∃x,pf 4=x:=⟨_,rfl⟩
 have R9:=e4
 rw[vE4,pE4] at R9
 obtain⟨ps9,m9,z9,rfl,rfl,hpm9,⟨o1mhR9,o2mhR9,o3mhR9⟩,gm9⟩:=R9
 have lm9:=gm9.ln
 have cm9:=gm9.gr.cnt
 have rm9:=eX gm9.gr.ok
 have e5:(vf 5)=.tuple #[.agg #[jI (intOf_o (ag9 0 (tp9 0 (vf 4)))),(ag9 1 (tp9 0 (vf 4))),(ag9 2 (tp9 0 (vf 4))),(ag9 3 (tp9 0 (vf 4)))],jI (intOf_o (tp9 1 (vf 4)))]∧(pf 5)=[]:=hR 5 (by decide)
 rw[vE4] at e5
 refine bL [4,5] [4,5] A (bU (sk 19 (congrArg some e5.1) (aB _)) (by simp only[pE4,vE4,e5.2,fS]<;>rfl) ?_)
 exact cD (aT (aK A)) (fun _ _ h=>⟨h.1.trans (by show _=(.agg #[jI (intOf_o (ag9 0 (tp9 0 (vf 4)))),(ag9 1 (tp9 0 (vf 4))),(ag9 2 (tp9 0 (vf 4))),(ag9 3 (tp9 0 (vf 4)))]:Value);first|(rw[vE4];done)|(rw[vE4];rfl)),h.2⟩)
 intro vf pf hmu hR
 have e4:(fun u_ p_=>GP9 m5 (andO m5.fst m5.gs (ntL x) y) u_ p_) (vf 4) (pf 4):=hR 4 (by decide)
 obtain⟨v7,vE4⟩:∃x,vf 4=x:=⟨_,rfl⟩
 obtain⟨p8,pE4⟩:∃x,pf 4=x:=⟨_,rfl⟩
 have R9:=e4
 rw[vE4,pE4] at R9
 obtain⟨ps9,m9,z9,rfl,rfl,hpm9,⟨o1mhR9,o2mhR9,o3mhR9⟩,gm9⟩:=R9
 have lm9:=gm9.ln
 have cm9:=gm9.gr.cnt
 have rm9:=eX gm9.gr.ok
 have e5:(vf 5)=.tuple #[.agg #[jI (intOf_o (ag9 0 (tp9 0 (vf 4)))),(ag9 1 (tp9 0 (vf 4))),(ag9 2 (tp9 0 (vf 4))),(ag9 3 (tp9 0 (vf 4)))],jI (intOf_o (tp9 1 (vf 4)))]∧(pf 5)=[]:=hR 5 (by decide)
 rw[vE4] at e5
 refine bL [4,5] [4,5] A (bU (sk 19 (congrArg some e5.1) (aB _)) (by simp only[pE4,vE4,e5.2,fS]<;>rfl) ?_)
 exact cD (aT (aK A)) (fun _ _ h=>⟨h.1.trans (by show _=(jI (intOf_o (tp9 1 (vf 4))):Value);first|(rw[vE4];done)|(rw[vE4];rfl)),h.2⟩)
 intro vf pf hmu hR
 have e4:(fun u_ p_=>GP9 m5 (andO m5.fst m5.gs (ntL x) y) u_ p_) (vf 4) (pf 4):=hR 4 (by decide)
 obtain⟨v7,vE4⟩:∃x,vf 4=x:=⟨_,rfl⟩
 obtain⟨p8,pE4⟩:∃x,pf 4=x:=⟨_,rfl⟩
 have R9:=e4
 rw[vE4,pE4] at R9
 obtain⟨ps9,m9,z9,rfl,rfl,hpm9,⟨o1mhR9,o2mhR9,o3mhR9⟩,gm9⟩:=R9
 have lm9:=gm9.ln
 have cm9:=gm9.gr.cnt
 have rm9:=eX gm9.gr.ok
 have e6:(vf 6)=.agg #[jI (intOf_o (ag9 0 (tp9 0 (vf 4)))),(ag9 1 (tp9 0 (vf 4))),(ag9 2 (tp9 0 (vf 4))),(ag9 3 (tp9 0 (vf 4)))]∧(pf 6)=[]:=hR 6 (by decide)
 rw[vE4] at e6
 refine Or.inl ⟨A,?_⟩
 show RunM _ _ _ (pf 10) (([4,6]:List Nat).flatMap pf++_) (envOf3 _ vf [4,6]++_) _ _
 have hmu0:pf 10=[nB9 b6 m5]:=hmu 0 (show 0<1 by omega)
 rw[hmu0]
 exact cV (sk 8 A (sk 25 (congrArg some e6.1) (aB _))) (by simp only[pE4,vE4,e6.2,fS]<;>rfl) (fD (dR (us:=[jI m9.ins,m9.sv,m9.av,m9.ov]) (off:=0) 0 A A A A A A (aA A (aA o1mhR9 (aA o2mhR9 (aA o3mhR9 bA)))) A A) (fun v_ p_ h=>by show p_=[boxE b6 #[jI (intOf_o (ag9 0 (tp9 0 (vf 4)))),(ag9 1 (tp9 0 (vf 4))),(ag9 2 (tp9 0 (vf 4))),(ag9 3 (tp9 0 (vf 4)))] 28];rw[vE4];exact h))
 intro vf pf hmu hR
 have e4:(fun u_ p_=>GP9 m5 (andO m5.fst m5.gs (ntL x) y) u_ p_) (vf 4) (pf 4):=hR 4 (by decide)
 obtain⟨v7,vE4⟩:∃x,vf 4=x:=⟨_,rfl⟩
 obtain⟨p8,pE4⟩:∃x,pf 4=x:=⟨_,rfl⟩
 have R9:=e4
 rw[vE4,pE4] at R9
 obtain⟨ps9,m9,z9,rfl,rfl,hpm9,⟨o1mhR9,o2mhR9,o3mhR9⟩,gm9⟩:=R9
 have lm9:=gm9.ln
 have cm9:=gm9.gr.cnt
 have rm9:=eX gm9.gr.ok
 have e7:(vf 7)=jI (intOf_o (tp9 1 (vf 4)))∧(pf 7)=[]:=hR 7 (by decide)
 rw[vE4] at e7
 have e8:(pf 8)=[boxE b6 #[jI (intOf_o (ag9 0 (tp9 0 (vf 4)))),(ag9 1 (tp9 0 (vf 4))),(ag9 2 (tp9 0 (vf 4))),(ag9 3 (tp9 0 (vf 4)))] 28]:=hR 8 (by decide)
 rw[vE4] at e8
 have pE8:=e8
 have q0:=hR 0 (by decide)
 have q1:=hR 1 (by decide)
 have q2:=hR 2 (by decide)
 have q3:=hR 3 (by decide)
 have q5:=hR 5 (by decide)
 have q6:=hR 6 (by decide)
 have q7:=hR 7 (by decide)
 refine cE (bO [9,8,7,6,3,2,1,0] _ (sk 26 (congrArg some e7.1) (aB _)) A) (by simp only[pE4,vE4,pE8,q0.2,q1.2,q2.2,q3.2,q5.2,q6.2,q7.2,fS]<;>rfl) ?_
 simp only[List.drop_succ_cons,List.drop_zero]
 refine aU 1 A (cF (aP A (aF (cs:=[jI n.ins,n.sv,n.av,n.ov]) A A A A A (aD 4 A 0 A)) (aP A (aF (cs:=[jI m9.ins,m9.sv,m9.av,m9.ov]) A A A A A (aD 1 A 0 A)) (aM 2 A ?_))))
 refine eB A A A (aJ A A (fun w hm=>wG n m9 z5 z9 w (hr.below hm.bel) hn (hpm9 w (hm.holds _ (bX (i:=0) A))) gm9.gr.ok (by omega) (by omega))) ?_
 intro v10 p11 R12
 obtain⟨ps12,m12,z12,rfl,rfl,hpm12,⟨o1mhR12,o2mhR12,o3mhR12⟩,hjm12⟩:=R12
 refine aM 2 A (bI (cs':=#[jI m12.ins,m12.sv,m12.av,m12.ov]) (i:=4) (off:=0) (us:=[jI m12.ins,m12.sv,m12.av,m12.ov]) A A A A A A A (aA A (aA o1mhR12 (aA o2mhR12 (aA o3mhR12 bA)))) A A A ?_)
 refine aU 1 A ?_
 refine aV ?_
 have hsim:=Ev gm5 gm9 hjm12
 exact bV (rs:=[.cell 6 28,.tmp 7]) (vs:=[.agg #[jI m12.ins,m12.sv,m12.av,m12.ov],jI z12]) (post:=[bigE ps12]) A ⟨⟨b2,0,[jI m12.ins,m12.sv,m12.av,m12.ov],A,A,by kernel_rfl,by kernel_rfl,aD 4 A 0 A⟩,A,trivial⟩ A (eJ [0] A) ⟨ps12,m12,_,A,A,hpm12,⟨o1mhR12,o2mhR12,o3mhR12⟩,Fw hn hsim.1 hsim.2⟩
theorem jX (b:Bool) (w:World)  :
   Calls Tryz.prog 97 #[.bool b] w (Ans w (.int .i64 (if b=true then 1 else 0))):=by
 refine bN (N:=4) (args:=[.bool b]) Tryz.func97 A A (bD 1 A (aC (aC (bZ 1 A ?_))))
 refine bW (fun h1=>?_) (fun h1=>?_)
 refine bR (aR A (bD 1 A ?_))
 refine aV (aL ?_)
 exact cA A A (by first|rw[if_pos (by assumption)]|rw[if_neg (by simp_all)])
 refine bR (aS A (bY (bD 1 A ?_)))
 exact aV (cA A A (by first|rw[if_pos (by assumption)]|rw[if_neg (by simp_all)]))
structure NcSm (n:Nt):Prop where
  i0:0≤n.ins
  i1:n.ins≤20
  s1:n.ss.length≤12
  a1:n.gs.length≤300
  o1:n.os.length≤16
def cntA (n:Nt):Int:=if 0≤n.ins∧n.ins≤20∧n.ss.length≤12∧n.gs.length≤300∧n.os.length≤16 then n.cnt else 0
theorem hU {n:Nt}(h:NcSm n):cntA n=n.cnt:=if_pos ⟨h.i0,h.i1,h.s1,h.a1,h.o1⟩
theorem jG {n:Nt}(h:¬NcSm n):cntA n=0:=if_neg (fun q=>h ⟨q.1,q.2.1,q.2.2.1,q.2.2.2.1,q.2.2.2.2⟩)
theorem lA {n:Nt}(h:cntA n≠0):NcSm n:=Classical.not_not.1 (fun q=>h (jG q))
theorem NtOk.nc {n:Nt}(h:NtOk n):NcSm n:=⟨h.i0,h.i1,h.s1,h.a1,h.o1⟩
theorem gR {n:Nt}(h:NcSm n):cntA n≠0:=by
  rw[hU h]
  have h1:=h.i0
  have e:n.cnt=1+n.ins+n.ss.length+n.gs.length:=rfl
  omega
structure NtSm (n:Nt):Prop where
  s1:n.ss.length≤20
  a1:n.gs.length≤400
  o1:n.os.length≤40
  x4:∀s∈n.ss,s.xs.length≤4
  mx:∀s∈n.ss,∀x∈s.xs,x≤9223372036854775807
  mg:∀k,k<n.gs.length→(n.gs.getD k an0).a≤9223372036854775807∧(n.gs.getD k an0).b≤9223372036854775807
  mo:∀x∈n.os,x≤9223372036854775807
theorem NtOk.sm {n:Nt}(h:NtOk n):NtSm n:=by
  have hc:=(eX h).2
  have hf:n.fst≤n.cnt:=by rw[gI];omega
  refine⟨by have:=h.s1;omega,by have:=h.a1;omega,by have:=h.o1;omega,fun s hs=>(h.sq s hs).len,fun s hs x hx=>?_,fun k hk=>?_,fun x hx=>?_⟩
  · have:=(h.xs s hs x hx).2;omega
  · have h1 := h.an k hk
    have h2:=h1.1.2
    have h3:=h1.2.2
    have h4:=h.a1
    have h5:n.cnt=n.fst+n.gs.length:=rfl
    constructor<;>omega
  · have:=(h.ou x hx).2;omega
theorem jP {n:Nt}(h:NtSm n):∀k,k≤n.ss.length→(rtsL n k).length≤40+4*k
  | 0,_=>by have:=h.o1;simp[rtsL];omega
  | k+1,hk=>by
    rw[←iT n (by omega),List.length_append]
    have:=jP h k (by omega)
    have:=h.x4 _ (bS (d:=sq0) (show k<n.ss.length by omega))
    omega
theorem tT {n:Nt}{x:Int}:x∈rtsL n n.ss.length↔x∈n.os∨∃s∈n.ss,x∈s.xs:=by
  unfold rtsL;rw[List.take_length,List.mem_append,List.mem_flatMap]
theorem zO {n:Nt}(h:NtSm n) {i:Nat}(hi:i<(rtsL n n.ss.length).length):(rtsL n n.ss.length).getD i 0≤9223372036854775807:=by
  rcases tT.1 (bS (d:=(0:Int)) hi) with h1|⟨s,hs,h1⟩
  · exact h.mo _ h1
  · exact h.mx s hs _ h1
theorem Gq {n:Nt}(hc:NcSm n) (hs:∀i,i<n.ss.length→SqOk (n.ss.getD i sq0)) (hr:∀i,i<(rtsL n n.ss.length).length→LtOk ((rtsL n n.ss.length).getD i 0) n.cnt) (ha:∀i,i<n.gs.length→LtOk (n.gs.getD i an0).a (n.fst+i)∧LtOk (n.gs.getD i an0).b (n.fst+i)):NtOk n:=by
  have hm:∀x,x∈rtsL n n.ss.length→LtOk x n.cnt:=fun x hx=>by
    obtain⟨i,hi,rfl⟩:=List.mem_iff_getElem.1 hx
    have:=hr i hi
    rw[List.getD_eq_getElem?_getD,List.getElem?_eq_getElem hi] at this;exact this
  refine⟨hc.i0,hc.i1,hc.s1,hc.a1,hc.o1,fun s h=>?_,fun s h x hx=>hm x (tT.2 (.inr ⟨s,h,hx⟩)),ha,fun x hx=>hm x (tT.2 (.inl hx))⟩
  obtain⟨i,hi,rfl⟩:=List.mem_iff_getElem.1 h
  have:=hs i hi
  rw[List.getD_eq_getElem?_getD,List.getElem?_eq_getElem hi] at this;exact this
theorem gJ {a b c:Int}(h:inR a b c=false):¬(b≤a∧a≤c):=fun q=>by rw[(eK _ _ _).2 q] at h;cases h
theorem nK (n:Nt) (w:World) (hr:RdsNt w n) (hS:NtSm n) :
   Calls Tryz.prog 38 #[.agg #[.int .i64 n.ins,n.sv,n.av,n.ov]] w (Ans w (.int .i64 (cntA n))):=by
 have qs1:=hS.s1
 have qa1:=hS.a1
 have qo1:=hS.o1
 have hcnt:n.cnt=1+n.ins+n.ss.length+n.gs.length:=rfl
 have hfst:n.fst=1+n.ins+n.ss.length:=rfl
 refine bN (N:=36) (args:=[.agg #[jI n.ins,n.sv,n.av,n.ov]]) Tryz.func38 A A (cF ?_)
 refine cR A (cN A A) ?_
 intro b1
 refine aU 1 A (eP (aP A (cQ 0 A A A) (aP A (aN A A A (aH 0 A A)) ?_)))
 refine dA A (aJ A A (fun w hm=>aY (dU n.ins 0 20 w))) (bW (fun h2=>?_) (fun h2=>?_))
 obtain⟨h2a,h2b⟩:=(eK _ _ _).1 h2
 refine aM 2 A (aP A (cQ 1 A A A) (aP A (aN A A A (aH 0 A A)) (aP A (bC A Tryz.underlying24 A (aE hr.sq)) ?_)))
 refine fJ A A A A A A (fun h3=>?_) (fun h3=>?_)
 refine aU 13 A ?_
 refine aR A (bD 1 A ?_)
 refine aV (aL ?_)
 exact cA A A (congrArg _ (jG (fun h9=>by obtain⟨i0,i1,s1,a1,o1⟩:=h9;omega)).symm)
 refine aM 2 A (aP A (cQ 2 A A A) (aP A (aN A A A (aH 0 A A)) (aP A (bC A Tryz.underlying25 A (aE hr.an)) ?_)))
 refine fJ A A A A A A (fun h4=>?_) (fun h4=>?_)
 refine aU 7 A (aR A (aC (bZ 1 A (?_))))
 refine bR ?_
 refine aV (aL ?_)
 exact cA A A (congrArg _ (jG (fun h9=>by obtain⟨i0,i1,s1,a1,o1⟩:=h9;omega)).symm)
 refine aM 2 A (aP A (cQ 3 A A A) (aP A (aN A A A (aH 0 A A)) (aP A (bC A Tryz.underlying26 A (aE hr.ou)) ?_)))
 refine fJ A A A A A A (fun h5=>?_) (fun h5=>?_)
 refine aU 1 A (aR A (bD 1 A ?_))
 refine aV (aL ?_)
 exact cA A A (congrArg _ (jG (fun h9=>by obtain⟨i0,i1,s1,a1,o1⟩:=h9;omega)).symm)
 refine aU 1 A (aS A (bY (cF (aP A (cQ 0 A A A) (aP A (aN A A A (aH 0 A A)) (aP A (dM A A A) (aP A (cQ 1 A A A) (aP A (aN A A A (aH 0 A A)) ?_))))))))
 refine aP A (bC A Tryz.underlying24 A (aE hr.sq)) (aP A (dM A A A) (aP A (cQ 2 A A A) (aP A (aN A A A (aH 0 A A)) (aP A (bC A Tryz.underlying25 A (aE hr.an)) (aP A (dM A A A) (aU 1 A ?_))))))
 exact aV (cA rfl rfl (congrArg (Value.int .i64) (show n.cnt=cntA n from(hU ⟨by omega,by omega,by omega,by omega,by omega⟩).symm)))
 have h2a:=gJ h2
 refine aU 19 A (aR A (bD 1 A ?_))
 refine aV (aL ?_)
 exact cA A A (congrArg _ (jG (fun h9=>by obtain⟨i0,i1,s1,a1,o1⟩:=h9;omega)).symm)
theorem oR (n:Nt) (w:World) (hr:RdsNt w n) (hc:NcSm n) :
   Calls Tryz.prog 41 #[.agg #[.int .i64 n.ins,n.sv,n.av,n.ov]] w (Ans w (.int .i64 n.fst)):=by
 obtain⟨hi0,hi1,hs1,ha1,ho1⟩:=hc
 have hcnt:n.cnt=1+n.ins+n.ss.length+n.gs.length:=rfl
 have hfst:n.fst=1+n.ins+n.ss.length:=rfl
 refine bN (N:=10) (args:=[.agg #[jI n.ins,n.sv,n.av,n.ov]]) Tryz.func41 A A (cF ?_)
 refine cR A (cN A A) ?_
 intro b1
 refine aU 1 A (cF (aP A (cQ 0 A A A) (aP A (aN A A A (aH 0 A A)) (aP A (dM A A A) (aP A (cQ 1 A A A) (aP A (aN A A A (aH 0 A A)) (aP A (bC A Tryz.underlying24 A (aE hr.sq)) (aP A (dM A A A) (aM 1 A ?_)))))))))
 refine bR ?_
 exact aV (cA A A A)
theorem rU (n:Nt) (w:World) (hr:RdsNt w n) (hS:NtSm n) :
   Calls Tryz.prog 28 #[.agg #[.int .i64 n.ins,n.sv,n.av,n.ov]] w (Ret w (fun v' post=>post=[rI9 3 v' (rtsL n n.ss.length)])):=by
 have qs1:=hS.s1
 have qa1:=hS.a1
 have qo1:=hS.o1
 have hcnt:n.cnt=1+n.ins+n.ss.length+n.gs.length:=rfl
 have hfst:n.fst=1+n.ins+n.ss.length:=rfl
 refine bN (N:=25) (args:=[.agg #[jI n.ins,n.sv,n.av,n.ov]]) Tryz.func28 A A (cF ?_)
 refine cR A (cN A A) ?_
 intro b1
 refine aU 1 A (cF ?_)
 refine dP A (dH (s:=1) A Tryz.underlying26 A) ?_
 intro g2
 refine aP A (cQ 3 A A A) (aP A (aN A A A (aH 1 A A)) ?_)
 refine cW (i:=0) (z:=jI 0) (bytes:=8) (n':=n.os.length) (xs':=(mI n.os)) A A A A Tryz.underlying26 (by kernel_rfl) A A A A (aE hr.ou) (cO _) (by first|omega|(simp;done)|(simp;omega)) (Nat.zero_add _) (List.nil_append _) (fun _=>A) ?_
 intro v3
 refine aU 1 A (aC (bD 1 A (bE ?_)))
 refine iC (α:=Nat) (β:=Value) (γ:=List Int) [0,1,2] A (fun k u zs=>[rI9 3 u zs,nB9 b1 n]) (fun k u zs=>[(3,u),(4,jI (k:Int))]) (fun k u zs=>k≤n.ss.length∧zs=rtsL n k) (fun k u zs=>n.ss.length-k) 0 _ n.os ⟨by omega,by simp[rtsL]⟩ (cT A) (dS A) ?_
 intro k u zs hi4
 obtain⟨hk,hz⟩:=hi4
 have hzl:zs.length≤40+4*k:=by rw[hz];exact jP hS k hk
 refine aC (aC (bZ 1 A (aP A (cQ 1 A A A) (aP A (aN A A A (aH 1 A A)) (aP A (bC A Tryz.underlying24 A (aE hr.sq)) ?_)))))
 refine bQ A A A A A A (fun h5=>?_) (fun h5=>?_)
 refine bR (aR A (bY (fM (bZ 1 A (aP A (cQ 1 A A A) ?_)))))
 have hx4:=hS.x4 _ (bS (d:=sq0) (show k<n.ss.length by omega))
 refine aP A (aN A A A (aH 1 A A)) (aM 1 A (aP A (dF 3 A A A A (aE hr.sq)) (aP A (cC (k0:=2) A A A (aE hr.sq) (by omega)) ?_)))
 refine aP A (bG (u:=(n.ss.getD k sq0).iv) A A A (aE hr.sq) ((dE sqC 3 (fun _=>A) n.ss sq0 (show k<_ by omega) (by decide)).trans A)) (cW (i:=0) (z:=jI 0) (bytes:=8) A A A A Tryz.underlying26 (by kernel_rfl) A A A A (fun w hm=>(hr.at (k:=k) (by omega)).below hm.bel) (cO _) (by first|omega|(simp;done)|(simp;omega)) (cH zs ((n.ss.getD k sq0).xs)) (dL zs ((n.ss.getD k sq0).xs)) (fun _=>A) ?_)
 intro v6
 refine dJ 1 A (cK (bZ 1 A (aP A (dM A A A) (dJ 1 A ?_))))
 exact cI (k+1) v6 (zs++((n.ss.getD k sq0).xs)) ⟨by omega,by rw[hz,iT n (by omega)]⟩ (by omega) (cT rfl) (dS rfl)
 refine bR (aS A ?_)
 refine bM (dI ?_)
 refine aO (bF (bD 2 A ?_))
 exact aV (dX (post:=[rI9 3 u zs]) A A (eJ [0] A) (by rw[hz,show k=n.ss.length by omega]))
theorem mL (n:Nt) (w:World) (hr:RdsNt w n) (hS:NtSm n) :
   Calls Tryz.prog 16 #[.agg #[.int .i64 n.ins,n.sv,n.av,n.ov]] w (Ans w (.bool (pB (NtOk n)))):=by
 have qs1:=hS.s1
 have qa1:=hS.a1
 have qo1:=hS.o1
 have hcnt:n.cnt=1+n.ins+n.ss.length+n.gs.length:=rfl
 have hfst:n.fst=1+n.ins+n.ss.length:=rfl
 refine bN (N:=104) (args:=[.agg #[jI n.ins,n.sv,n.av,n.ov]]) Tryz.func16 A A (cF ?_)
 refine cR A (cN A A) ?_
 intro b1
 refine aU 1 A (cF (aP A (aF (cs:=[jI n.ins,n.sv,n.av,n.ov]) A A A A A (aD 0 A 0 A)) ?_))
 refine dA A (aJ A A (fun w hm=>aY (nK n w (hr.below hm.bel) hS))) (aU 1 A (aC (aC (bZ 1 A ?_))))
 refine cM A A A A A A (fun h2=>?_) (fun h2=>?_)
 refine bR (aR A (bD 1 A ?_))
 refine aV (aL ?_)
 exact cA A A (congrArg _ (gB (fun hp=>by first|(exact gR hp.nc (by assumption);done)|(have h9:=(hp.sq _ (bS (d:=sq0) (show k<n.ss.length by omega))).kind;omega;done)|(have h9:=hp.sq _ (bS (d:=sq0) (show k<n.ss.length by omega));exact absurd h9 (by assumption);done)|(have h9:=eM hp (i:=q) (by omega);rw[←hnc] at h9;exact absurd h9 (by assumption);done)|(have h9:=eM hp (i:=q) (by omega);rw[←hnc] at h9;obtain⟨h8,h7⟩:=h9;omega;done)|(have h9:=hp.an j (by omega);exact absurd h9.1 (by assumption);done)|(have h9:=hp.an j (by omega);exact absurd h9.2 (by assumption);done)|(have h9:=hp.an j (by omega);obtain⟨⟨h8,h7⟩,h6,h5⟩:=h9;omega;done))).symm)
 refine bR (aS A (bY (eP ?_)))
 have hc:=lA (by assumption)
 have hnc:=hU hc
 obtain⟨hi0,hi1,hs1,ha1,ho1⟩:=id hc
 refine aU 1 A (bE ?_)
 refine hO (α:=Nat) [0,1,2,3,12] A (fun k=>[nB9 b1 n]) (fun k=>[(4,jI (k:Int))]) (fun k=>k≤n.ss.length∧∀i,i<k→SqOk (n.ss.getD i sq0)) (fun k=>n.ss.length-k) 0 ⟨Nat.zero_le _,fun i hi=>absurd hi (Nat.not_lt_zero _)⟩ (cT A) (dS A) ?_
 intro k hi3
 obtain⟨hk,hqs⟩:=hi3
 refine aC (aC (bZ 1 A (aP A (cQ 1 A A A) (aP A (aN A A A (aH 0 A A)) (aP A (bC A Tryz.underlying24 A (aE hr.sq)) ?_)))))
 refine bQ A A A A A A (fun h4=>?_) (fun h4=>?_)
 refine bR (aR A (bY (fM (cF (aP A (cQ 1 A A A) (aP A (aN A A A (aH 0 A A)) (aM 1 A (aP A (dF 3 A A A A (aE hr.sq)) ?_))))))))
 refine aP A (eI (us:=[jI ((n.ss.getD k sq0).kd),jI ((n.ss.getD k sq0).it),(n.ss.getD k sq0).iv]) A A A A (aE hr.sq) (by omega) A (fC sqC 3 (fun _=>A) n.ss sq0 (show k<_ by omega) A)) (cR A (bP (z:=.agg #[jI 0,jI 0,.slice none 0 0]) A A) ?_)
 intro b5
 refine bI (cs':=#[jI ((n.ss.getD k sq0).kd),jI ((n.ss.getD k sq0).it),(n.ss.getD k sq0).iv]) (i:=0) (off:=0) (us:=[jI ((n.ss.getD k sq0).kd),jI ((n.ss.getD k sq0).it),(n.ss.getD k sq0).iv]) A A A A A A A (aA A (aA A (aA (hr.at (k:=k) (by omega)).one bA))) A A A (bR (cF (aP A (cQ 0 A A A) (aP A (aN A A A (aH 0 A A)) ?_))))
 refine cM A A A A A A (fun h6=>?_) (fun h6=>?_)
 refine aM 1 A (aP A (cQ 1 A A A) (aP A (aN A A A (aH 0 A A)) ?_))
 refine dA A (aJ A A (fun w hm=>aY (dU ((n.ss.getD k sq0).it) 0 1 w))) (bW (fun h7=>?_) (fun h7=>?_))
 obtain⟨h7a,h7b⟩:=(eK _ _ _).1 h7
 refine aM 2 A (aP A (cQ 2 A A A) (aP A (aN A A A (aH 0 A A)) ?_))
 refine aP A (bC A Tryz.underlying26 A (fun w hm=>(hr.at (k:=k) (by omega)).below hm.bel)) (cM A A A A A A (fun h8=>?_) (fun h8=>?_))
 refine aU 18 A (hH A (cK (bZ 1 A (aP A (dM A A A) ?_))))
 have hc:=lA (by assumption)
 have hnc:=hU hc
 obtain⟨hi0,hi1,hs1,ha1,ho1⟩:=id hc
 refine dJ 1 A ?_
 exact cU (k+1) ⟨by omega,fun i hi=>by by_cases e9:i=k;(subst e9;exact⟨by omega⟩);exact hqs i (by omega)⟩ (by omega) (cT A) (eJ [1] A)
 refine aM 2 A (aP A (cQ 0 A A A) (aP A (aN A A A (aH 0 A A)) ?_))
 refine cM A A A A A A (fun h9=>?_) (fun h9=>?_)
 refine aM 1 A (aP A (cQ 1 A A A) (aP A (aN A A A (aH 0 A A)) ?_))
 refine dA A (aJ A A (fun w hm=>aY (dU ((n.ss.getD k sq0).it) 0 31 w))) (bW (fun h10=>?_) (fun h10=>?_))
 obtain⟨h10a,h10b⟩:=(eK _ _ _).1 h10
 refine aM 2 A (aP A (cQ 2 A A A) (aP A (aN A A A (aH 0 A A)) ?_))
 refine aP A (bC A Tryz.underlying26 A (fun w hm=>(hr.at (k:=k) (by omega)).below hm.bel)) (cM A A A A A A (fun h11=>?_) (fun h11=>?_))
 refine aU 3 A (hH A (cK (bZ 1 A (aP A (dM A A A) ?_))))
 have hc:=lA (by assumption)
 have hnc:=hU hc
 obtain⟨hi0,hi1,hs1,ha1,ho1⟩:=id hc
 refine dJ 1 A ?_
 exact cU (k+1) ⟨by omega,fun i hi=>by by_cases e9:i=k;(subst e9;exact⟨by omega⟩);exact hqs i (by omega)⟩ (by omega) (cT A) (eJ [1] A)
 refine aU 3 A (aR A (bD 1 A ?_))
 refine aV (aQ ?_)
 refine fL ?_
 refine aQ (aL ?_)
 exact cA A A (congrArg _ (gB (fun hp=>by first|(exact gR hp.nc (by assumption);done)|(have h9:=(hp.sq _ (bS (d:=sq0) (show k<n.ss.length by omega))).kind;omega;done)|(have h9:=hp.sq _ (bS (d:=sq0) (show k<n.ss.length by omega));exact absurd h9 (by assumption);done)|(have h9:=eM hp (i:=q) (by omega);rw[←hnc] at h9;exact absurd h9 (by assumption);done)|(have h9:=eM hp (i:=q) (by omega);rw[←hnc] at h9;obtain⟨h8,h7⟩:=h9;omega;done)|(have h9:=hp.an j (by omega);exact absurd h9.1 (by assumption);done)|(have h9:=hp.an j (by omega);exact absurd h9.2 (by assumption);done)|(have h9:=hp.an j (by omega);obtain⟨⟨h8,h7⟩,h6,h5⟩:=h9;omega;done))).symm)
 have h10a:=gJ h10
 refine aU 9 A (aR A (aC (bZ 1 A (?_))))
 refine bR ?_
 refine aV (aQ ?_)
 refine fL ?_
 refine aQ (aL ?_)
 exact cA A A (congrArg _ (gB (fun hp=>by first|(exact gR hp.nc (by assumption);done)|(have h9:=(hp.sq _ (bS (d:=sq0) (show k<n.ss.length by omega))).kind;omega;done)|(have h9:=hp.sq _ (bS (d:=sq0) (show k<n.ss.length by omega));exact absurd h9 (by assumption);done)|(have h9:=eM hp (i:=q) (by omega);rw[←hnc] at h9;exact absurd h9 (by assumption);done)|(have h9:=eM hp (i:=q) (by omega);rw[←hnc] at h9;obtain⟨h8,h7⟩:=h9;omega;done)|(have h9:=hp.an j (by omega);exact absurd h9.1 (by assumption);done)|(have h9:=hp.an j (by omega);exact absurd h9.2 (by assumption);done)|(have h9:=hp.an j (by omega);obtain⟨⟨h8,h7⟩,h6,h5⟩:=h9;omega;done))).symm)
 refine aU 13 A (aR A ?_)
 refine bD 1 A ?_
 refine aV (aQ ?_)
 refine fL ?_
 refine aQ (aL ?_)
 exact cA A A (congrArg _ (gB (fun hp=>by first|(exact gR hp.nc (by assumption);done)|(have h9:=(hp.sq _ (bS (d:=sq0) (show k<n.ss.length by omega))).kind;omega;done)|(have h9:=hp.sq _ (bS (d:=sq0) (show k<n.ss.length by omega));exact absurd h9 (by assumption);done)|(have h9:=eM hp (i:=q) (by omega);rw[←hnc] at h9;exact absurd h9 (by assumption);done)|(have h9:=eM hp (i:=q) (by omega);rw[←hnc] at h9;obtain⟨h8,h7⟩:=h9;omega;done)|(have h9:=hp.an j (by omega);exact absurd h9.1 (by assumption);done)|(have h9:=hp.an j (by omega);exact absurd h9.2 (by assumption);done)|(have h9:=hp.an j (by omega);obtain⟨⟨h8,h7⟩,h6,h5⟩:=h9;omega;done))).symm)
 have h7a:=gJ h7
 refine aM 8 A (aP A (cQ 0 A A A) (aP A (aN A A A (aH 0 A A)) ?_))
 refine cM A A A A A A (fun h12=>?_) (fun h12=>?_)
 refine aM 1 A (aP A (cQ 1 A A A) (aP A (aN A A A (aH 0 A A)) ?_))
 refine dA A (aJ A A (fun w hm=>aY (dU ((n.ss.getD k sq0).it) 0 31 w))) (bW (fun h13=>?_) (fun h13=>?_))
 obtain⟨h13a,h13b⟩:=(eK _ _ _).1 h13
 refine aM 2 A (aP A (cQ 2 A A A) (aP A (aN A A A (aH 0 A A)) ?_))
 refine aP A (bC A Tryz.underlying26 A (fun w hm=>(hr.at (k:=k) (by omega)).below hm.bel)) (cM A A A A A A (fun h14=>?_) (fun h14=>?_))
 refine aU 3 A (hH A (cK (bZ 1 A (aP A (dM A A A) ?_))))
 have hc:=lA (by assumption)
 have hnc:=hU hc
 obtain⟨hi0,hi1,hs1,ha1,ho1⟩:=id hc
 refine dJ 1 A ?_
 exact cU (k+1) ⟨by omega,fun i hi=>by by_cases e9:i=k;(subst e9;exact⟨by omega⟩);exact hqs i (by omega)⟩ (by omega) (cT A) (eJ [1] A)
 refine aU 3 A (aR A (bD 1 A ?_))
 refine aV (aQ ?_)
 refine fL ?_
 refine aQ (aL ?_)
 exact cA A A (congrArg _ (gB (fun hp=>by first|(exact gR hp.nc (by assumption);done)|(have h9:=(hp.sq _ (bS (d:=sq0) (show k<n.ss.length by omega))).kind;omega;done)|(have h9:=hp.sq _ (bS (d:=sq0) (show k<n.ss.length by omega));exact absurd h9 (by assumption);done)|(have h9:=eM hp (i:=q) (by omega);rw[←hnc] at h9;exact absurd h9 (by assumption);done)|(have h9:=eM hp (i:=q) (by omega);rw[←hnc] at h9;obtain⟨h8,h7⟩:=h9;omega;done)|(have h9:=hp.an j (by omega);exact absurd h9.1 (by assumption);done)|(have h9:=hp.an j (by omega);exact absurd h9.2 (by assumption);done)|(have h9:=hp.an j (by omega);obtain⟨⟨h8,h7⟩,h6,h5⟩:=h9;omega;done))).symm)
 have h13a:=gJ h13
 refine aU 9 A (aR A (aC (bZ 1 A (?_))))
 refine bR ?_
 refine aV (aQ ?_)
 refine fL ?_
 refine aQ (aL ?_)
 exact cA A A (congrArg _ (gB (fun hp=>by first|(exact gR hp.nc (by assumption);done)|(have h9:=(hp.sq _ (bS (d:=sq0) (show k<n.ss.length by omega))).kind;omega;done)|(have h9:=hp.sq _ (bS (d:=sq0) (show k<n.ss.length by omega));exact absurd h9 (by assumption);done)|(have h9:=eM hp (i:=q) (by omega);rw[←hnc] at h9;exact absurd h9 (by assumption);done)|(have h9:=eM hp (i:=q) (by omega);rw[←hnc] at h9;obtain⟨h8,h7⟩:=h9;omega;done)|(have h9:=hp.an j (by omega);exact absurd h9.1 (by assumption);done)|(have h9:=hp.an j (by omega);exact absurd h9.2 (by assumption);done)|(have h9:=hp.an j (by omega);obtain⟨⟨h8,h7⟩,h6,h5⟩:=h9;omega;done))).symm)
 refine aU 13 A (aR A ?_)
 refine bD 1 A ?_
 refine aV (aQ ?_)
 refine fL ?_
 refine aQ (aL ?_)
 exact cA A A (congrArg _ (gB (fun hp=>by first|(exact gR hp.nc (by assumption);done)|(have h9:=(hp.sq _ (bS (d:=sq0) (show k<n.ss.length by omega))).kind;omega;done)|(have h9:=hp.sq _ (bS (d:=sq0) (show k<n.ss.length by omega));exact absurd h9 (by assumption);done)|(have h9:=eM hp (i:=q) (by omega);rw[←hnc] at h9;exact absurd h9 (by assumption);done)|(have h9:=eM hp (i:=q) (by omega);rw[←hnc] at h9;obtain⟨h8,h7⟩:=h9;omega;done)|(have h9:=hp.an j (by omega);exact absurd h9.1 (by assumption);done)|(have h9:=hp.an j (by omega);exact absurd h9.2 (by assumption);done)|(have h9:=hp.an j (by omega);obtain⟨⟨h8,h7⟩,h6,h5⟩:=h9;omega;done))).symm)
 refine aM 12 A (aP A (cQ 0 A A A) (aP A (aN A A A (aH 0 A A)) ?_))
 refine cM A A A A A A (fun h15=>?_) (fun h15=>?_)
 refine aM 1 A (aP A (cQ 1 A A A) (aP A (aN A A A (aH 0 A A)) ?_))
 refine dA A (aJ A A (fun w hm=>aY (dU ((n.ss.getD k sq0).it) 0 31 w))) (bW (fun h16=>?_) (fun h16=>?_))
 obtain⟨h16a,h16b⟩:=(eK _ _ _).1 h16
 refine aM 2 A (aP A (cQ 2 A A A) (aP A (aN A A A (aH 0 A A)) ?_))
 refine aP A (bC A Tryz.underlying26 A (fun w hm=>(hr.at (k:=k) (by omega)).below hm.bel)) (cM A A A A A A (fun h17=>?_) (fun h17=>?_))
 refine aU 3 A (hH A (cK (bZ 1 A (aP A (dM A A A) ?_))))
 have hc:=lA (by assumption)
 have hnc:=hU hc
 obtain⟨hi0,hi1,hs1,ha1,ho1⟩:=id hc
 refine dJ 1 A ?_
 exact cU (k+1) ⟨by omega,fun i hi=>by by_cases e9:i=k;(subst e9;exact⟨by omega⟩);exact hqs i (by omega)⟩ (by omega) (cT A) (eJ [1] A)
 refine aU 3 A (aR A (bD 1 A ?_))
 refine aV (aQ ?_)
 refine fL ?_
 refine aQ (aL ?_)
 exact cA A A (congrArg _ (gB (fun hp=>by first|(exact gR hp.nc (by assumption);done)|(have h9:=(hp.sq _ (bS (d:=sq0) (show k<n.ss.length by omega))).kind;omega;done)|(have h9:=hp.sq _ (bS (d:=sq0) (show k<n.ss.length by omega));exact absurd h9 (by assumption);done)|(have h9:=eM hp (i:=q) (by omega);rw[←hnc] at h9;exact absurd h9 (by assumption);done)|(have h9:=eM hp (i:=q) (by omega);rw[←hnc] at h9;obtain⟨h8,h7⟩:=h9;omega;done)|(have h9:=hp.an j (by omega);exact absurd h9.1 (by assumption);done)|(have h9:=hp.an j (by omega);exact absurd h9.2 (by assumption);done)|(have h9:=hp.an j (by omega);obtain⟨⟨h8,h7⟩,h6,h5⟩:=h9;omega;done))).symm)
 have h16a:=gJ h16
 refine aU 9 A (aR A (aC (bZ 1 A (?_))))
 refine bR ?_
 refine aV (aQ ?_)
 refine fL ?_
 refine aQ (aL ?_)
 exact cA A A (congrArg _ (gB (fun hp=>by first|(exact gR hp.nc (by assumption);done)|(have h9:=(hp.sq _ (bS (d:=sq0) (show k<n.ss.length by omega))).kind;omega;done)|(have h9:=hp.sq _ (bS (d:=sq0) (show k<n.ss.length by omega));exact absurd h9 (by assumption);done)|(have h9:=eM hp (i:=q) (by omega);rw[←hnc] at h9;exact absurd h9 (by assumption);done)|(have h9:=eM hp (i:=q) (by omega);rw[←hnc] at h9;obtain⟨h8,h7⟩:=h9;omega;done)|(have h9:=hp.an j (by omega);exact absurd h9.1 (by assumption);done)|(have h9:=hp.an j (by omega);exact absurd h9.2 (by assumption);done)|(have h9:=hp.an j (by omega);obtain⟨⟨h8,h7⟩,h6,h5⟩:=h9;omega;done))).symm)
 refine aU 13 A (aR A ?_)
 refine bD 1 A ?_
 refine aV (aQ ?_)
 refine fL ?_
 refine aQ (aL ?_)
 exact cA A A (congrArg _ (gB (fun hp=>by first|(exact gR hp.nc (by assumption);done)|(have h9:=(hp.sq _ (bS (d:=sq0) (show k<n.ss.length by omega))).kind;omega;done)|(have h9:=hp.sq _ (bS (d:=sq0) (show k<n.ss.length by omega));exact absurd h9 (by assumption);done)|(have h9:=eM hp (i:=q) (by omega);rw[←hnc] at h9;exact absurd h9 (by assumption);done)|(have h9:=eM hp (i:=q) (by omega);rw[←hnc] at h9;obtain⟨h8,h7⟩:=h9;omega;done)|(have h9:=hp.an j (by omega);exact absurd h9.1 (by assumption);done)|(have h9:=hp.an j (by omega);exact absurd h9.2 (by assumption);done)|(have h9:=hp.an j (by omega);obtain⟨⟨h8,h7⟩,h6,h5⟩:=h9;omega;done))).symm)
 refine bR (aS A ?_)
 refine bM (dI ?_)
 refine aO (bF (cF (aP A (aF (cs:=[jI n.ins,n.sv,n.av,n.ov]) A A A A A (aD 0 A 0 A)) ?_)))
 refine eB A A A (aJ A A (fun w hm=>rU n w (hr.below hm.bel) hS)) ?_
 intro v18 p19 R20
 subst R20
 refine aU 1 A (aC (bD 1 A (bE ?_)))
 refine hO (α:=Nat) [0,1,2,3,6,12,17] A (fun q=>[rowE 3 1 v18 ((rtsL n n.ss.length).length) (mI (rtsL n n.ss.length)),nB9 b1 n]) (fun q=>[(7,jI (q:Int))]) (fun q=>q≤(rtsL n n.ss.length).length∧∀i,i<q→LtOk ((rtsL n n.ss.length).getD i 0) n.cnt) (fun q=>(rtsL n n.ss.length).length-q) 0 ⟨Nat.zero_le _,fun i hi=>absurd hi (Nat.not_lt_zero _)⟩ (cT A) (dS A) ?_
 intro q hi21
 obtain⟨hq,hqr⟩:=hi21
 refine eP ?_
 have hzl:=jP hS n.ss.length (Nat.le_refl _)
 refine aM 2 A (aP A (bC A Tryz.underlying26 A (aG 0 A)) ?_)
 refine bQ A A A A A A (fun h22=>?_) (fun h22=>?_)
 refine bR (aR A (bY (fM (cF ?_))))
 have hzl:=jP hS n.ss.length (Nat.le_refl _)
 have hzm:=zO hS (i:=q) (by omega)
 refine aM 2 A (aP A (dF 1 A A A A (aG 0 A)) (aP A (bG (u:=jI ((rtsL n n.ss.length).getD q 0)) A A A (aG 0 A) (eS (show _<(rtsL n n.ss.length).length by omega))) (aM 1 A ?_)))
 refine dA A (aJ A A (fun w hm=>aY (iD ((rtsL n n.ss.length).getD q 0) (cntA n) w (by omega)))) (bW (fun h23=>?_) (fun h23=>?_))
 have h23q:=of_decide_eq_true h23
 refine aU 1 A (hH A (cK (bZ 1 A (aP A (dM A A A) (dJ 1 A ?_)))))
 exact cU (q+1) ⟨by omega,fun i hi=>by by_cases e9:i=q;(subst e9;rw[←hnc];assumption);exact hqr i (by omega)⟩ (by omega) (cT rfl) (dS rfl)
 have h23q:=of_decide_eq_false h23
 refine aU 1 A (aR A (bD 1 A ?_))
 refine aV (aQ ?_)
 refine fL ?_
 refine aQ (aL ?_)
 exact cA A A (congrArg _ (gB (fun hp=>by first|(exact gR hp.nc (by assumption);done)|(have h9:=(hp.sq _ (bS (d:=sq0) (show k<n.ss.length by omega))).kind;omega;done)|(have h9:=hp.sq _ (bS (d:=sq0) (show k<n.ss.length by omega));exact absurd h9 (by assumption);done)|(have h9:=eM hp (i:=q) (by omega);rw[←hnc] at h9;exact absurd h9 (by assumption);done)|(have h9:=eM hp (i:=q) (by omega);rw[←hnc] at h9;obtain⟨h8,h7⟩:=h9;omega;done)|(have h9:=hp.an j (by omega);exact absurd h9.1 (by assumption);done)|(have h9:=hp.an j (by omega);exact absurd h9.2 (by assumption);done)|(have h9:=hp.an j (by omega);obtain⟨⟨h8,h7⟩,h6,h5⟩:=h9;omega;done))).symm)
 refine bR (aS A ?_)
 refine bM (dI ?_)
 refine aO (bF (aC (bD 1 A (bE ?_))))
 refine hO (α:=Nat) [0,1,2,3,6,12,17,61] A (fun j=>[rowE 3 1 v18 ((rtsL n n.ss.length).length) (mI (rtsL n n.ss.length)),nB9 b1 n]) (fun j=>[(8,jI (j:Int))]) (fun j=>j≤n.gs.length∧∀i,i<j→LtOk (n.gs.getD i an0).a (n.fst+i)∧LtOk (n.gs.getD i an0).b (n.fst+i)) (fun j=>n.gs.length-j) 0 ⟨Nat.zero_le _,fun i hi=>absurd hi (Nat.not_lt_zero _)⟩ (cT A) (dS A) ?_
 intro j hi24
 obtain⟨hj,hqa⟩:=hi24
 refine aC (aC (bZ 1 A (aP A (cQ 2 A A A) (aP A (aN A A A (aH 1 A A)) (aP A (bC A Tryz.underlying25 A (aE hr.an)) ?_)))))
 refine bQ A A A A A A (fun h25=>?_) (fun h25=>?_)
 refine bR (aR A (bY (fM (aC ?_))))
 have hmg:=hS.mg j (by omega)
 obtain⟨hmg1,hmg2⟩:=hmg
 rcases Bool.eq_false_or_eq_true (decide (LtOk ((n.gs.getD j an0).a) (n.fst+(j:Int)))) with hb26|hb26
 have hb26q:=of_decide_eq_true hb26
 have hmg:=hS.mg j (by omega)
 obtain⟨hmg1,hmg2⟩:=hmg
 refine cJ 26 [[],[0],[],[1,2],[3],[4],[],[6],[],[7,8],[5,9],[10],[11],[12],[12,13],[12],[12,14,15],[12,16],[12,17],[12],[12,19],[12],[12,20,21],[12,18,22],[12,23],[12,24]] [78,79,80,81,82,83,84,85,86,87,88,89,90,91,92,93,94,95,96,97,98,99,100,101,102,103] [.pointer (some ⟨b1,0+2,none⟩),n.av,jI (j:Int),elP n.av ((j:Int).toNat*2),elP n.av ((j:Int).toNat*2+0),jI ((n.gs.getD j an0).a),.agg #[jI n.ins,n.sv,n.av,n.ov],jI n.fst,jI (j:Int),jI (n.fst+(j:Int)),.bool true,.bool false,.bool false,.pointer (some ⟨b1,0+2,none⟩),n.av,jI (j:Int),elP n.av ((j:Int).toNat*2),elP n.av ((j:Int).toNat*2+1),jI ((n.gs.getD j an0).b),.agg #[jI n.ins,n.sv,n.av,n.ov],jI n.fst,jI (j:Int),jI (n.fst+(j:Int)),.bool (decide (LtOk ((n.gs.getD j an0).b) (n.fst+(j:Int)))),.bool (!(decide (LtOk ((n.gs.getD j an0).b) (n.fst+(j:Int))))),.bool (!(decide (LtOk ((n.gs.getD j an0).b) (n.fst+(j:Int)))))] (by kernel_rfl) A ?_ ?_
 exact⟨bK A (cQ 2 A A A) A,bK A (aN A A A (aH 1 A A)) A,bK A (aK A) A,bK A (dF 2 A A A A (aE hr.an)) A,bK A (cC (k0:=0) A A A (aE hr.an) (by omega)) A,bK A (bG (u:=jI ((n.gs.getD j an0).a)) A A A (aE hr.an) ((dE anC 2 (fun _=>A) n.gs an0 (show j<_ by omega) (by decide)).trans A)) A,bK A (aF (cs:=[jI n.ins,n.sv,n.av,n.ov]) A A A A A (aD 1 A 0 A)) A,.inl ⟨A,aJ A A (fun w hm=>aY (oR n w (hr.below hm.bel) hc))⟩,bK A (aK A) A,bK A (dM A A A) A,.inl ⟨A,iH (aJ (by kernel_rfl) A (fun w hm=>aY (iD ((n.gs.getD j an0).a) (n.fst+(j:Int)) w (by omega)))) hb26⟩,bK A (aK A) A,bK A (aK A) A,bK A (cQ 2 A A A) A,bK A (aN A A A (aH 1 A A)) A,bK A (aK A) A,bK A (dF 2 A A A A (aE hr.an)) A,bK A (cC (k0:=1) A A A (aE hr.an) (by omega)) A,bK A (bG (u:=jI ((n.gs.getD j an0).b)) A A A (aE hr.an) ((dE anC 2 (fun _=>A) n.gs an0 (show j<_ by omega) (by decide)).trans A)) A,bK A (aF (cs:=[jI n.ins,n.sv,n.av,n.ov]) A A A A A (aD 1 A 0 A)) A,.inl ⟨A,aJ A A (fun w hm=>aY (oR n w (hr.below hm.bel) hc))⟩,bK A (aK A) A,bK A (dM A A A) A,.inl ⟨A,aJ (by kernel_rfl) A (fun w hm=>aY (iD ((n.gs.getD j an0).b) (n.fst+(j:Int)) w (by omega)))⟩,bK A (aK A) A,bK A (aK A) A,trivial⟩
 simp only[List.drop_succ_cons,List.drop_zero]
 refine bR ?_
 refine fU A (fun h27=>?_) (fun h27=>?_)
 have h27n:(decide (LtOk ((n.gs.getD j an0).b) (n.fst+(j:Int))))=false:=by simpa using h27
 have h27nq:=of_decide_eq_false h27n
 refine bD 1 A ?_
 refine aV (aQ ?_)
 refine fL ?_
 refine aQ (aL ?_)
 exact cA A A (congrArg _ (gB (fun hp=>by first|(exact gR hp.nc (by assumption);done)|(have h9:=(hp.sq _ (bS (d:=sq0) (show k<n.ss.length by omega))).kind;omega;done)|(have h9:=hp.sq _ (bS (d:=sq0) (show k<n.ss.length by omega));exact absurd h9 (by assumption);done)|(have h9:=eM hp (i:=q) (by omega);rw[←hnc] at h9;exact absurd h9 (by assumption);done)|(have h9:=eM hp (i:=q) (by omega);rw[←hnc] at h9;obtain⟨h8,h7⟩:=h9;omega;done)|(have h9:=hp.an j (by omega);exact absurd h9.1 (by assumption);done)|(have h9:=hp.an j (by omega);exact absurd h9.2 (by assumption);done)|(have h9:=hp.an j (by omega);obtain⟨⟨h8,h7⟩,h6,h5⟩:=h9;omega;done))).symm)
 have h27n:(decide (LtOk ((n.gs.getD j an0).b) (n.fst+(j:Int))))=true:=by simpa using h27
 have h27nq:=of_decide_eq_true h27n
 refine fP (cK (bZ 1 A (aP A (dM A A A) (dJ 1 A ?_))))
 exact cU (j+1) ⟨by omega,fun i hi=>by by_cases e9:i=j;(subst e9;exact⟨by assumption,by assumption⟩);exact hqa i (by omega)⟩ (by omega) (cT A) (dS A)
 have hb26q:=of_decide_eq_false hb26
 have hmg:=hS.mg j (by omega)
 obtain⟨hmg1,hmg2⟩:=hmg
 refine cJ 26 [[],[0],[],[1,2],[3],[4],[],[6],[],[7,8],[5,9],[10],[11],[12],[12],[12],[12],[12],[12],[12],[12],[12],[12],[12],[12],[12,24]] [78,79,80,81,82,83,84,85,86,87,88,89,90,91,92,93,94,95,96,97,98,99,100,101,102,103] [.pointer (some ⟨b1,0+2,none⟩),n.av,jI (j:Int),elP n.av ((j:Int).toNat*2),elP n.av ((j:Int).toNat*2+0),jI ((n.gs.getD j an0).a),.agg #[jI n.ins,n.sv,n.av,n.ov],jI n.fst,jI (j:Int),jI (n.fst+(j:Int)),.bool false,.bool true,.bool true,undef,undef,undef,undef,undef,undef,undef,undef,undef,undef,undef,undef,.bool true] (by kernel_rfl) A ?_ ?_
 exact⟨bK A (cQ 2 A A A) A,bK A (aN A A A (aH 1 A A)) A,bK A (aK A) A,bK A (dF 2 A A A A (aE hr.an)) A,bK A (cC (k0:=0) A A A (aE hr.an) (by omega)) A,bK A (bG (u:=jI ((n.gs.getD j an0).a)) A A A (aE hr.an) ((dE anC 2 (fun _=>A) n.gs an0 (show j<_ by omega) (by decide)).trans A)) A,bK A (aF (cs:=[jI n.ins,n.sv,n.av,n.ov]) A A A A A (aD 1 A 0 A)) A,.inl ⟨A,aJ A A (fun w hm=>aY (oR n w (hr.below hm.bel) hc))⟩,bK A (aK A) A,bK A (dM A A A) A,.inl ⟨A,iH (aJ (by kernel_rfl) A (fun w hm=>aY (iD ((n.gs.getD j an0).a) (n.fst+(j:Int)) w (by omega)))) hb26⟩,bK A (aK A) A,bK A (aK A) A,.inr ⟨A,A⟩,.inr ⟨A,A⟩,.inr ⟨A,A⟩,.inr ⟨A,A⟩,.inr ⟨A,A⟩,.inr ⟨A,A⟩,.inr ⟨A,A⟩,.inr ⟨A,A⟩,.inr ⟨A,A⟩,.inr ⟨A,A⟩,.inr ⟨A,A⟩,.inr ⟨A,A⟩,bK A (aK A) A,trivial⟩
 simp only[List.drop_succ_cons,List.drop_zero]
 refine bR (aR A (bD 1 A ?_))
 refine aV (aQ ?_)
 refine fL ?_
 refine aQ (aL ?_)
 exact cA A A (congrArg _ (gB (fun hp=>by first|(exact gR hp.nc (by assumption);done)|(have h9:=(hp.sq _ (bS (d:=sq0) (show k<n.ss.length by omega))).kind;omega;done)|(have h9:=hp.sq _ (bS (d:=sq0) (show k<n.ss.length by omega));exact absurd h9 (by assumption);done)|(have h9:=eM hp (i:=q) (by omega);rw[←hnc] at h9;exact absurd h9 (by assumption);done)|(have h9:=eM hp (i:=q) (by omega);rw[←hnc] at h9;obtain⟨h8,h7⟩:=h9;omega;done)|(have h9:=hp.an j (by omega);exact absurd h9.1 (by assumption);done)|(have h9:=hp.an j (by omega);exact absurd h9.2 (by assumption);done)|(have h9:=hp.an j (by omega);obtain⟨⟨h8,h7⟩,h6,h5⟩:=h9;omega;done))).symm)
 refine bR (aS A ?_)
 refine bM (dI ?_)
 refine aO (bF (bD 1 A ?_))
 exact aV (cA A A (congrArg _ (oM (Gq hc (fun i hi=>hqs i (by omega)) (fun i hi=>hqr i (by omega)) (fun i hi=>hqa i (by omega)))).symm))
theorem qW (n:Nt) (w:World) (hr:RdsNt w n) (hc:NcSm n) :
   Calls Tryz.prog 55 #[.agg #[.int .i64 n.ins,n.sv,n.av,n.ov]] w (Ans w (.int .i64 n.cnt)):=by
 obtain⟨hi0,hi1,hs1,ha1,ho1⟩:=hc
 have hcnt:n.cnt=1+n.ins+n.ss.length+n.gs.length:=rfl
 have hfst:n.fst=1+n.ins+n.ss.length:=rfl
 refine bN (N:=14) (args:=[.agg #[jI n.ins,n.sv,n.av,n.ov]]) Tryz.func55 A A (cF ?_)
 refine cR A (cN A A) ?_
 intro b1
 refine aU 1 A (cF (aP A (cQ 0 A A A) (aP A (aN A A A (aH 0 A A)) (aP A (dM A A A) (aP A (cQ 1 A A A) (aP A (aN A A A (aH 0 A A)) (aP A (bC A Tryz.underlying24 A (aE hr.sq)) (aP A (dM A A A) (aP A (cQ 2 A A A) ?_)))))))))
 refine aP A (aN A A A (aH 0 A A)) (aP A (bC A Tryz.underlying25 A (aE hr.an)) (aP A (dM A A A) (aU 1 A ?_)))
 exact aV (cA A A A)
theorem nY (n:Nt) (w:World) (hr:RdsNt w n) (hS:NtSm n) :
   Calls Tryz.prog 61 #[.agg #[.int .i64 n.ins,n.sv,n.av,n.ov]] w (Ans w (.int .i64 (cntA n))):=by
 have qs1:=hS.s1
 have qa1:=hS.a1
 have qo1:=hS.o1
 have hcnt:n.cnt=1+n.ins+n.ss.length+n.gs.length:=rfl
 have hfst:n.fst=1+n.ins+n.ss.length:=rfl
 refine bN (N:=27) (args:=[.agg #[jI n.ins,n.sv,n.av,n.ov]]) Tryz.func61 A A (cF ?_)
 refine cR A (cN A A) ?_
 intro b1
 refine aU 1 A (eP (aP A (cQ 0 A A A) (aP A (aN A A A (aH 0 A A)) ?_)))
 refine dA A (aJ A A (fun w hm=>aY (gP (eL _ _ _ w)))) (bW (fun h2=>?_) (fun h2=>?_))
 obtain⟨h2a,h2b⟩:=(eK _ _ _).1 h2
 refine aM 2 A (aP A (cQ 1 A A A) (aP A (aN A A A (aH 0 A A)) (aP A (bC A Tryz.underlying24 A (aE hr.sq)) ?_)))
 refine fJ A A A A A A (fun h3=>?_) (fun h3=>?_)
 refine aU 13 A ?_
 refine aR A (bD 1 A ?_)
 refine aV (aL ?_)
 exact cA A A (congrArg _ (jG (fun h9=>by obtain⟨i0,i1,s1,a1,o1⟩:=h9;omega)).symm)
 refine aM 2 A (aP A (cQ 2 A A A) (aP A (aN A A A (aH 0 A A)) (aP A (bC A Tryz.underlying25 A (aE hr.an)) ?_)))
 refine fJ A A A A A A (fun h4=>?_) (fun h4=>?_)
 refine aU 7 A (aR A (aC (bZ 1 A (?_))))
 refine bR ?_
 refine aV (aL ?_)
 exact cA A A (congrArg _ (jG (fun h9=>by obtain⟨i0,i1,s1,a1,o1⟩:=h9;omega)).symm)
 refine aM 2 A (aP A (cQ 3 A A A) (aP A (aN A A A (aH 0 A A)) (aP A (bC A Tryz.underlying26 A (aE hr.ou)) ?_)))
 refine fJ A A A A A A (fun h5=>?_) (fun h5=>?_)
 refine aU 1 A (aR A (bD 1 A ?_))
 refine aV (aL ?_)
 exact cA A A (congrArg _ (jG (fun h9=>by obtain⟨i0,i1,s1,a1,o1⟩:=h9;omega)).symm)
 refine aU 1 A (aS A (bY (cF (aP A (aF (cs:=[jI n.ins,n.sv,n.av,n.ov]) A A A A A (aD 0 A 0 A)) ?_))))
 refine dA A (aJ A A (fun w hm=>aY (qW n w (hr.below hm.bel) ⟨by omega,by omega,by omega,by omega,by omega⟩))) (aU 1 A ?_)
 exact aV (cA rfl rfl (congrArg (Value.int .i64) (show n.cnt=cntA n from(hU ⟨by omega,by omega,by omega,by omega,by omega⟩).symm)))
 have h2a:=gJ h2
 refine aU 19 A (aR A (bD 1 A ?_))
 refine aV (aL ?_)
 exact cA A A (congrArg _ (jG (fun h9=>by obtain⟨i0,i1,s1,a1,o1⟩:=h9;omega)).symm)
theorem Bv (n:Nt) (w:World) (hr:RdsNt w n) (hc:NcSm n) :
   Calls Tryz.prog 51 #[.agg #[.int .i64 n.ins,n.sv,n.av,n.ov]] w (Ans w (.int .i64 n.fst)):=by
 obtain⟨hi0,hi1,hs1,ha1,ho1⟩:=hc
 have hcnt:n.cnt=1+n.ins+n.ss.length+n.gs.length:=rfl
 have hfst:n.fst=1+n.ins+n.ss.length:=rfl
 refine bN (N:=10) (args:=[.agg #[jI n.ins,n.sv,n.av,n.ov]]) Tryz.func51 A A (cF ?_)
 refine cR A (cN A A) ?_
 intro b1
 refine aU 1 A (cF (aP A (cQ 0 A A A) (aP A (aN A A A (aH 0 A A)) (aP A (dM A A A) (aP A (cQ 1 A A A) (aP A (aN A A A (aH 0 A A)) (aP A (bC A Tryz.underlying24 A (aE hr.sq)) (aP A (dM A A A) (aM 1 A ?_)))))))))
 refine bR ?_
 exact aV (cA A A A)
theorem xV (s:Sq) (w:World) (hx:RdsW w s.iv 1 s.xs.length (s.xs.map (Value.int .i64))) :
   Calls Tryz.prog 62 #[.agg #[.int .i64 s.kd,.int .i64 s.it,s.iv]] w (Ans w (.bool (pB (SqOk s)))):=by
 refine bN (N:=27) (args:=[.agg #[jI s.kd,jI s.it,s.iv]]) Tryz.func62 A A (cF ?_)
 refine cR A (cN A A) ?_
 intro b1
 refine aU 1 A (eP (aP A (cQ 0 A A A) (aP A (aN A A A (aH 0 A A)) (bR (bE (aC ?_))))))
 refine bJ (cM A A A A A A (fun h2=>?_) (fun h2=>?_))
 refine aU 1 A (aR A (cF (aP A (cQ 1 A A A) (aP A (aN A A A (aH 0 A A)) ?_))))
 refine dA A (aJ A A (fun w hm=>aY (gP (eL _ _ _ w)))) (bW (fun h3=>?_) (fun h3=>?_))
 obtain⟨h3a,h3b⟩:=(eK _ _ _).1 h3
 refine aM 1 A (aP A (cQ 2 A A A) (aP A (aN A A A (aH 0 A A)) (aP A (bC A Tryz.underlying26 A (aE hx)) ?_)))
 refine cM A A A A A A (fun h4=>?_) (fun h4=>?_)
 refine aU 2 A ?_
 refine aV (aQ ?_)
 exact aL (cA A A (congrArg _ (oM ⟨by omega⟩).symm))
 refine aU 2 A ?_
 refine aV (aQ ?_)
 exact aL (cA A A (congrArg _ (gB (fun hp=>by have h9:=hp.kind;omega)).symm))
 have h3a:=gJ h3
 refine aU 7 A ?_
 refine aV (aQ ?_)
 exact aL (cA A A (congrArg _ (gB (fun hp=>by have h9:=hp.kind;omega)).symm))
 refine aU 1 A (aS A (cF ?_))
 refine cM A A A A A A (fun h5=>?_) (fun h5=>?_)
 refine aU 1 A (aR A (cF (aP A (cQ 1 A A A) (aP A (aN A A A (aH 0 A A)) ?_))))
 refine dA A (aJ A A (fun w hm=>aY (gP (eL _ _ _ w)))) (bW (fun h6=>?_) (fun h6=>?_))
 obtain⟨h6a,h6b⟩:=(eK _ _ _).1 h6
 refine aM 1 A (aP A (cQ 2 A A A) (aP A (aN A A A (aH 0 A A)) (aP A (bC A Tryz.underlying26 A (aE hx)) ?_)))
 refine cM A A A A A A (fun h7=>?_) (fun h7=>?_)
 refine aU 2 A ?_
 refine aV (aQ ?_)
 exact aL (cA A A (congrArg _ (oM ⟨by omega⟩).symm))
 refine aU 2 A ?_
 refine aV (aQ ?_)
 exact aL (cA A A (congrArg _ (gB (fun hp=>by have h9:=hp.kind;omega)).symm))
 have h6a:=gJ h6
 refine aU 7 A ?_
 refine aV (aQ ?_)
 exact aL (cA A A (congrArg _ (gB (fun hp=>by have h9:=hp.kind;omega)).symm))
 refine aU 1 A (hH A (cK (bD 1 A ?_)))
 exact aV (cA A A (congrArg _ (gB (fun hp=>by have h9:=hp.kind;omega)).symm))
theorem qM (n:Nt) (w:World) (hr:RdsNt w n) (hS:NtSm n) :
   Calls Tryz.prog 26 #[.agg #[.int .i64 n.ins,n.sv,n.av,n.ov]] w (Ret w (fun v' post=>post=[rI9 3 v' (rtsL n n.ss.length)])):=by
 have qs1:=hS.s1
 have qa1:=hS.a1
 have qo1:=hS.o1
 have hcnt:n.cnt=1+n.ins+n.ss.length+n.gs.length:=rfl
 have hfst:n.fst=1+n.ins+n.ss.length:=rfl
 refine bN (N:=22) (args:=[.agg #[jI n.ins,n.sv,n.av,n.ov]]) Tryz.func26 A A (cF ?_)
 refine cR A (cN A A) ?_
 intro b1
 refine aU 1 A (cF (aP A (cQ 3 A A A) (aP A (aN A A A (aH 0 A A)) ?_)))
 refine eB A A A (aJ A A (fun w hm=>mV n.os _ w ((aE hr.ou) w hm) (by omega))) ?_
 intro v2 p3 R4
 subst R4
 refine aU 1 A (eP (aP A (cQ 1 A A A) (aP A (aN A A A (aH 1 A A)) (aP A (bC A Tryz.underlying24 A (aE hr.sq)) (aU 1 A ?_)))))
 refine bE ?_
 refine iC (α:=Nat) (β:=Value) (γ:=List Int) [0,1,2,10,11] A (fun k u zs=>[rI9 3 u zs,nB9 b1 n]) (fun k u zs=>[(3,u),(12,jI (k:Int))]) (fun k u zs=>k≤n.ss.length∧zs=rtsL n k) (fun k u zs=>n.ss.length-k) 0 _ n.os ⟨by omega,by simp[rtsL]⟩ (cT A) (dS A) ?_
 intro k u zs hi5
 obtain⟨hk,hz⟩:=hi5
 have hzl:zs.length≤40+4*k:=by rw[hz];exact jP hS k hk
 refine cF ?_
 refine bQ A A A A A A (fun h6=>?_) (fun h6=>?_)
 refine bR (nF A (bY (fM (cF (aP A (dF 3 A A A A (aE hr.sq)) ?_)))))
 refine aP A (eI (us:=[jI ((n.ss.getD k sq0).kd),jI ((n.ss.getD k sq0).it),(n.ss.getD k sq0).iv]) A A A A (aE hr.sq) (by omega) A (fC sqC 3 (fun _=>A) n.ss sq0 (show k<_ by omega) A)) (cR A (bP (z:=.agg #[jI 0,jI 0,.slice none 0 0]) A A) ?_)
 intro b7
 refine bI (cs':=#[jI ((n.ss.getD k sq0).kd),jI ((n.ss.getD k sq0).it),(n.ss.getD k sq0).iv]) (i:=0) (off:=0) (us:=[jI ((n.ss.getD k sq0).kd),jI ((n.ss.getD k sq0).it),(n.ss.getD k sq0).iv]) A A A A A A A (aA A (aA A (aA (hr.at (k:=k) (by omega)).one bA))) A A A (bR (bJ ?_))
 have hx4:=hS.x4 _ (bS (d:=sq0) (show k<n.ss.length by omega))
 refine aM 1 A (aP A (cQ 2 A A A) (aP A (aN A A A (aH 0 A A)) ?_))
 refine cW (i:=1) (z:=jI 0) (bytes:=8) A A A A Tryz.underlying26 (by kernel_rfl) A A A A (fun w hm=>(hr.at (k:=k) (by omega)).below hm.bel) (cO _) (by first|omega|(simp;done)|(simp;omega)) (cH zs ((n.ss.getD k sq0).xs)) (dL zs ((n.ss.getD k sq0).xs)) (fun _=>A) ?_
 intro v8
 refine dJ 1 A (cK (bJ (aP A (dM A A A) (dJ 1 A ?_))))
 exact cI (k+1) v8 (zs++((n.ss.getD k sq0).xs)) ⟨by omega,by rw[hz,iT n (by omega)]⟩ (by omega) (cT rfl) (eJ [1,0] rfl)
 refine bR (nG A ?_)
 refine bM (dI ?_)
 refine aO (bF (bD 2 A ?_))
 exact aV (dX (post:=[rI9 3 u zs]) A A (eJ [0] A) (by rw[hz,show k=n.ss.length by omega]))
theorem mR (n:Nt) (w:World) (hr:RdsNt w n) (hS:NtSm n) :
   Calls Tryz.prog 24 #[.agg #[.int .i64 n.ins,n.sv,n.av,n.ov]] w (Ans w (.bool (pB (NtOk n)))):=by
 have qs1:=hS.s1
 have qa1:=hS.a1
 have qo1:=hS.o1
 have hcnt:n.cnt=1+n.ins+n.ss.length+n.gs.length:=rfl
 have hfst:n.fst=1+n.ins+n.ss.length:=rfl
 refine bN (N:=67) (args:=[.agg #[jI n.ins,n.sv,n.av,n.ov]]) Tryz.func24 A A (cF ?_)
 refine cR A (cN A A) ?_
 intro b1
 refine aU 1 A (cF (aP A (aF (cs:=[jI n.ins,n.sv,n.av,n.ov]) A A A A A (aD 0 A 0 A)) ?_))
 refine dA A (aJ A A (fun w hm=>aY (nY n w (hr.below hm.bel) hS))) (aU 1 A (aC (aC (bZ 1 A ?_))))
 refine cM A A A A A A (fun h2=>?_) (fun h2=>?_)
 refine bR (aR A (bD 1 A ?_))
 refine aV (aL ?_)
 exact cA A A (congrArg _ (gB (fun hp=>by first|(exact gR hp.nc (by assumption);done)|(have h9:=hp.sq _ (bS (d:=sq0) (show k<n.ss.length by omega));exact absurd h9 (by assumption);done)|(have h9:=eM hp (i:=q) (by omega);rw[←hnc] at h9;obtain⟨h8,h7⟩:=h9;omega;done)|(have h9:=hp.an j (by omega);obtain⟨⟨h8,h7⟩,h6,h5⟩:=h9;omega;done))).symm)
 refine bR (aS A (bY (eP ?_)))
 have hc:=lA (by assumption)
 have hnc:=hU hc
 obtain⟨hi0,hi1,hs1,ha1,ho1⟩:=id hc
 refine aP A (cQ 1 A A A) ?_
 have hc:=lA (by assumption)
 have hnc:=hU hc
 obtain⟨hi0,hi1,hs1,ha1,ho1⟩:=id hc
 refine aP A (aN A A A (aH 0 A A)) (aP A (bC A Tryz.underlying24 A (aE hr.sq)) (aU 1 A (bE ?_)))
 refine hO (α:=Nat) [0,1,2,3,14,16,17] A (fun k=>[nB9 b1 n]) (fun k=>[(18,jI (k:Int))]) (fun k=>k≤n.ss.length∧∀i,i<k→SqOk (n.ss.getD i sq0)) (fun k=>n.ss.length-k) 0 ⟨Nat.zero_le _,fun i hi=>absurd hi (Nat.not_lt_zero _)⟩ (cT A) (dS A) ?_
 intro k hi3
 obtain⟨hk,hqs⟩:=hi3
 refine cF ?_
 refine bQ A A A A A A (fun h4=>?_) (fun h4=>?_)
 refine bR (nF A (bY (fM (cF (aP A (dF 3 A A A A (aE hr.sq)) ?_)))))
 refine aP A (eI (us:=[jI ((n.ss.getD k sq0).kd),jI ((n.ss.getD k sq0).it),(n.ss.getD k sq0).iv]) A A A A (aE hr.sq) (by omega) A (fC sqC 3 (fun _=>A) n.ss sq0 (show k<_ by omega) A)) (cR A (bP (z:=.agg #[jI 0,jI 0,.slice none 0 0]) A A) ?_)
 intro b5
 refine bI (cs':=#[jI ((n.ss.getD k sq0).kd),jI ((n.ss.getD k sq0).it),(n.ss.getD k sq0).iv]) (i:=0) (off:=0) (us:=[jI ((n.ss.getD k sq0).kd),jI ((n.ss.getD k sq0).it),(n.ss.getD k sq0).iv]) A A A A A A A (aA A (aA A (aA (hr.at (k:=k) (by omega)).one bA))) A A A (bR (cF (aP A (aF (cs:=[jI ((n.ss.getD k sq0).kd),jI ((n.ss.getD k sq0).it),(n.ss.getD k sq0).iv]) A A A A A (aD 0 A 0 A)) ?_)))
 refine dA A (aJ A A (fun w hm=>aY (xV (n.ss.getD k sq0) w ((hr.at (k:=k) (by omega)).below hm.bel)))) (bW (fun h6=>?_) (fun h6=>?_))
 have h6p:=sP h6
 refine aU 1 A (hH A (cK (bJ (aP A (dM A A A) (dJ 1 A ?_)))))
 exact cU (k+1) ⟨by omega,fun i hi=>by by_cases e9:i=k;(subst e9;assumption);exact hqs i (by omega)⟩ (by omega) (cT A) (eJ [1] A)
 have h6p:=oN h6
 refine aU 1 A (aR A (bD 1 A ?_))
 refine aV (aQ ?_)
 refine fL ?_
 refine aQ (aL ?_)
 exact cA A A (congrArg _ (gB (fun hp=>by first|(exact gR hp.nc (by assumption);done)|(have h9:=hp.sq _ (bS (d:=sq0) (show k<n.ss.length by omega));exact absurd h9 (by assumption);done)|(have h9:=eM hp (i:=q) (by omega);rw[←hnc] at h9;obtain⟨h8,h7⟩:=h9;omega;done)|(have h9:=hp.an j (by omega);obtain⟨⟨h8,h7⟩,h6,h5⟩:=h9;omega;done))).symm)
 refine bR (nG A ?_)
 refine bM (dI ?_)
 refine aO (bF (eP (aP A (aF (cs:=[jI n.ins,n.sv,n.av,n.ov]) A A A A A (aD 0 A 0 A)) ?_)))
 refine eB A A A (aJ A A (fun w hm=>qM n w (hr.below hm.bel) hS)) ?_
 intro v7 p8 R9
 subst R9
 refine aP A (bC A Tryz.underlying26 A (aG 0 A)) ?_
 have hzl:=jP hS n.ss.length (Nat.le_refl _)
 refine aU 1 A (bE ?_)
 refine hO (α:=Nat) [0,1,2,3,14,16,17,18,19,27,28] A (fun q=>[rowE 3 1 v7 ((rtsL n n.ss.length).length) (mI (rtsL n n.ss.length)),nB9 b1 n]) (fun q=>[(29,jI (q:Int))]) (fun q=>q≤(rtsL n n.ss.length).length∧∀i,i<q→LtOk ((rtsL n n.ss.length).getD i 0) n.cnt) (fun q=>(rtsL n n.ss.length).length-q) 0 ⟨Nat.zero_le _,fun i hi=>absurd hi (Nat.not_lt_zero _)⟩ (cT A) (dS A) ?_
 intro q hi10
 obtain⟨hq,hqr⟩:=hi10
 refine cF ?_
 refine bQ A A A A A A (fun h11=>?_) (fun h11=>?_)
 refine bR (nF A (bY (fM (cF (aP A (dF 1 A A A A (aG 0 A)) (aP A (bG (u:=jI ((rtsL n n.ss.length).getD q 0)) A A A (aG 0 A) (eS (show _<(rtsL n n.ss.length).length by omega))) (aM 1 A ?_)))))))
 refine bR (cF ?_)
 have hzm:=zO hS (i:=q) (by omega)
 refine aM 2 A (aP A (fO A A A (by constructor<;>omega)) (aP A (iM A A A) ?_))
 refine dA A (aJ A A (fun w hm=>aY (gP (eL _ _ _ w)))) (bW (fun h12=>?_) (fun h12=>?_))
 obtain⟨h12a,h12b⟩:=(eK _ _ _).1 h12
 refine aU 1 A (hH A (cK (bJ (aP A (dM A A A) ?_))))
 have hzl:=jP hS n.ss.length (Nat.le_refl _)
 refine dJ 1 A ?_
 exact cU (q+1) ⟨by omega,fun i hi=>by by_cases e9:i=q;(subst e9;unfold LtOk;rw[←hnc];omega);exact hqr i (by omega)⟩ (by omega) (cT rfl) (dS rfl)
 have h12a:=gJ h12
 refine aU 1 A (aR A (bD 1 A ?_))
 refine aV (aQ ?_)
 refine fL ?_
 refine aQ (aL ?_)
 exact cA A A (congrArg _ (gB (fun hp=>by first|(exact gR hp.nc (by assumption);done)|(have h9:=hp.sq _ (bS (d:=sq0) (show k<n.ss.length by omega));exact absurd h9 (by assumption);done)|(have h9:=eM hp (i:=q) (by omega);rw[←hnc] at h9;obtain⟨h8,h7⟩:=h9;omega;done)|(have h9:=hp.an j (by omega);obtain⟨⟨h8,h7⟩,h6,h5⟩:=h9;omega;done))).symm)
 refine bR (nG A ?_)
 refine bM (dI ?_)
 refine aO (bF (eP (aP A (cQ 2 A A A) (aP A (aN A A A (aH 1 A A)) (aP A (bC A Tryz.underlying25 A (aE hr.an)) (aU 1 A (bE ?_)))))))
 refine hO (α:=Nat) [0,1,2,3,14,16,17,18,19,27,28,29,30,41,42] A (fun j=>[rowE 3 1 v7 ((rtsL n n.ss.length).length) (mI (rtsL n n.ss.length)),nB9 b1 n]) (fun j=>[(43,jI (j:Int))]) (fun j=>j≤n.gs.length∧∀i,i<j→LtOk (n.gs.getD i an0).a (n.fst+i)∧LtOk (n.gs.getD i an0).b (n.fst+i)) (fun j=>n.gs.length-j) 0 ⟨Nat.zero_le _,fun i hi=>absurd hi (Nat.not_lt_zero _)⟩ (cT A) (dS A) ?_
 intro j hi13
 obtain⟨hj,hqa⟩:=hi13
 refine cF ?_
 refine bQ A A A A A A (fun h14=>?_) (fun h14=>?_)
 refine bR (nF A (bY (fM (aC (bZ 1 A (aP A (dF 2 A A A A (aE hr.an)) ?_))))))
 refine aP A (eI (us:=[jI ((n.gs.getD j an0).a),jI ((n.gs.getD j an0).b)]) A A A A (aE hr.an) (by omega) A (fC anC 2 (fun _=>A) n.gs an0 (show j<_ by omega) A)) (cR A (bP (z:=.agg #[jI 0,jI 0]) A A) ?_)
 intro b15
 refine aM 1 A (bI (cs':=#[jI ((n.gs.getD j an0).a),jI ((n.gs.getD j an0).b)]) (i:=0) (off:=0) (us:=[jI ((n.gs.getD j an0).a),jI ((n.gs.getD j an0).b)]) A A A A A A A (aA A (aA A bA)) A A A ?_)
 refine bR (cF (aP A (aF (cs:=[jI n.ins,n.sv,n.av,n.ov]) A A A A A (aD 2 A 0 A)) ?_))
 refine dA A (aJ A A (fun w hm=>aY (Bv n w (hr.below hm.bel) hc))) (aM 1 A (aP A (dM A A A) (aP A (fO A A A (by constructor<;>omega)) (aP A (iM A A A) (aU 1 A (cF (aP A (cQ 0 A A A) (aP A (aN A A A (aH 0 A A)) (aM 1 A ?_)))))))))
 refine dA A (aJ A A (fun w hm=>aY (gP (eL _ _ _ w)))) (bW (fun h16=>?_) (fun h16=>?_))
 obtain⟨h16a,h16b⟩:=(eK _ _ _).1 h16
 refine aM 2 A (aP A (cQ 1 A A A) (aP A (aN A A A (aH 0 A A)) (aM 1 A ?_)))
 refine dA A (aJ A A (fun w hm=>aY (gP (eL _ _ _ w)))) (bW (fun h17=>?_) (fun h17=>?_))
 obtain⟨h17a,h17b⟩:=(eK _ _ _).1 h17
 refine aU 2 A (hH A (cK (bJ (aP A (dM A A A) (dJ 1 A ?_)))))
 exact cU (j+1) ⟨by omega,fun i hi=>by by_cases e9:i=j;(subst e9;unfold LtOk;omega);exact hqa i (by omega)⟩ (by omega) (cT A) (eJ [1,0] A)
 have h17a:=gJ h17
 refine aU 2 A (aR A (bD 1 A ?_))
 refine aV (aQ ?_)
 refine fL ?_
 refine aQ (aL ?_)
 exact cA A A (congrArg _ (gB (fun hp=>by first|(exact gR hp.nc (by assumption);done)|(have h9:=hp.sq _ (bS (d:=sq0) (show k<n.ss.length by omega));exact absurd h9 (by assumption);done)|(have h9:=eM hp (i:=q) (by omega);rw[←hnc] at h9;obtain⟨h8,h7⟩:=h9;omega;done)|(have h9:=hp.an j (by omega);obtain⟨⟨h8,h7⟩,h6,h5⟩:=h9;omega;done))).symm)
 have h16a:=gJ h16
 refine aU 8 A (aR A (aC (bZ 1 A (?_))))
 refine bR ?_
 refine aV (aQ ?_)
 refine fL ?_
 refine aQ (aL ?_)
 exact cA A A (congrArg _ (gB (fun hp=>by first|(exact gR hp.nc (by assumption);done)|(have h9:=hp.sq _ (bS (d:=sq0) (show k<n.ss.length by omega));exact absurd h9 (by assumption);done)|(have h9:=eM hp (i:=q) (by omega);rw[←hnc] at h9;obtain⟨h8,h7⟩:=h9;omega;done)|(have h9:=hp.an j (by omega);obtain⟨⟨h8,h7⟩,h6,h5⟩:=h9;omega;done))).symm)
 refine bR (nG A ?_)
 refine bM (dI ?_)
 refine aO (bF (bD 1 A ?_))
 exact aV (cA A A (congrArg _ (oM (Gq hc (fun i hi=>hqs i (by omega)) (fun i hi=>hqr i (by omega)) (fun i hi=>hqa i (by omega)))).symm))
theorem rF (a b:Nt) (w:World) (ra:RdsNt w a) (rb_:RdsNt w b) (hA:NtSm a) (hB:NtSm b) :
   Calls Tryz.prog 47 #[.agg #[.int .i64 a.ins,a.sv,a.av,a.ov],.agg #[.int .i64 b.ins,b.sv,b.av,b.ov]] w (Ans w (.bool (pB (CmpOk a b)))):=by
 have as1:=hA.s1
 have aa1:=hA.a1
 have ao1:=hA.o1
 have bs1:=hB.s1
 have ba1:=hB.a1
 have bo1:=hB.o1
 refine bN (N:=68) (args:=[.agg #[jI a.ins,a.sv,a.av,a.ov],.agg #[jI b.ins,b.sv,b.av,b.ov]]) Tryz.func47 A A (cF ?_)
 refine cR A (cN A A) ?_
 intro b1
 refine cR A (cN A A) ?_
 intro b2
 refine aU 1 A (eP (aP A (aF (cs:=[jI a.ins,a.sv,a.av,a.ov]) A A A A A (aD 1 A 0 A)) ?_))
 refine dA A (aJ A A (fun w hm=>aY (mR a w (ra.below hm.bel) hA))) (bW (fun h3=>?_) (fun h3=>?_))
 have hak:=sP h3
 have ai0:=hak.i0
 have ai1:=hak.i1
 refine aM 2 A (aP A (aF (cs:=[jI b.ins,b.sv,b.av,b.ov]) A A A A A (aD 0 A 0 A)) ?_)
 refine dA A (aJ A A (fun w hm=>aY (mR b w (rb_.below hm.bel) hB))) (bW (fun h4=>?_) (fun h4=>?_))
 have hbk:=sP h4
 have bi0:=hbk.i0
 have bi1:=hbk.i1
 refine aM 3 A (aP A (cQ 0 A A A) (aP A (aN A A A (aH 1 A A)) (aP A (cQ 0 A A A) (aP A (aN A A A (aH 0 A A)) ?_))))
 refine hQ A A A A A A (fun h5=>?_) (fun h5=>?_)
 refine aU 28 A ?_
 refine aR A (bD 1 A ?_)
 refine aV (aL ?_)
 exact cA A A (congrArg _ (gB (fun c=>by first|exact han c.ha|exact hbn c.hb|(have c1:=c.ins;have c2:=c.ss;have c3:=c.os;have c4:=c.c20;omega)|(have c5:=c.kd i (by omega);omega))).symm)
 refine aM 2 A (aP A (cQ 1 A A A) (aP A (aN A A A (aH 1 A A)) (aP A (bC A Tryz.underlying24 A (aE ra.sq)) (aP A (cQ 1 A A A) (aP A (aN A A A (aH 0 A A)) (aP A (bC A Tryz.underlying24 A (aE rb_.sq)) ?_))))))
 refine hQ A A A A A A (fun h6=>?_) (fun h6=>?_)
 refine aU 19 A (aR A (bD 1 A ?_))
 refine aV (aL ?_)
 exact cA A A (congrArg _ (gB (fun c=>by first|exact han c.ha|exact hbn c.hb|(have c1:=c.ins;have c2:=c.ss;have c3:=c.os;have c4:=c.c20;omega)|(have c5:=c.kd i (by omega);omega))).symm)
 refine aM 2 A (aP A (cQ 3 A A A) (aP A (aN A A A (aH 1 A A)) (aP A (bC A Tryz.underlying26 A (aE ra.ou)) (aP A (cQ 3 A A A) (aP A (aN A A A (aH 0 A A)) (aP A (bC A Tryz.underlying26 A (aE rb_.ou)) ?_))))))
 refine hQ A A A A A A (fun h7=>?_) (fun h7=>?_)
 refine aU 10 A (aR A (aC ?_))
 refine bJ (aU 1 A ?_)
 refine aV (aL ?_)
 exact cA A A (congrArg _ (gB (fun c=>by first|exact han c.ha|exact hbn c.hb|(have c1:=c.ins;have c2:=c.ss;have c3:=c.os;have c4:=c.c20;omega)|(have c5:=c.kd i (by omega);omega))).symm)
 refine aM 2 A (aP A (cQ 0 A A A) (aP A (aN A A A (aH 1 A A)) (aP A (cQ 1 A A A) (aP A (aN A A A (aH 1 A A)) (aP A (bC A Tryz.underlying24 A (aE ra.sq)) (aP A (dM A A A) ?_))))))
 refine fJ A A A A A A (fun h8=>?_) (fun h8=>?_)
 refine aU 1 A (aR A (bD 1 A ?_))
 refine aV (aL ?_)
 exact cA A A (congrArg _ (gB (fun c=>by first|exact han c.ha|exact hbn c.hb|(have c1:=c.ins;have c2:=c.ss;have c3:=c.os;have c4:=c.c20;omega)|(have c5:=c.kd i (by omega);omega))).symm)
 refine aU 1 A (aS A (bY (eP (aP A (cQ 1 A A A) (aP A (aN A A A (aH 1 A A)) (aP A (bC A Tryz.underlying24 A (aE ra.sq)) (aM 1 A ?_)))))))
 refine bR (bE ?_)
 refine hO (α:=Nat) [0,1,2,3,4,47,50] A (fun i=>[nB9 b2 b,nB9 b1 a]) (fun i=>[(51,jI (i:Int))]) (fun i=>i≤a.ss.length∧∀j,j<i→(a.ss.getD j sq0).kd=(b.ss.getD j sq0).kd) (fun i=>a.ss.length-i) 0 ⟨Nat.zero_le _,fun j hj=>absurd hj (Nat.not_lt_zero _)⟩ (cT A) (dS A) ?_
 intro i hi9
 obtain⟨hi,hkd⟩:=hi9
 refine cF ?_
 refine bQ A A A A A A (fun h10=>?_) (fun h10=>?_)
 refine bR (nF A (bY (fM (cF (dJ 2 A ?_)))))
 refine bF (aC ?_)
 refine cJ 13 [[],[0],[],[1,2],[3],[4],[],[6],[],[7,8],[9],[10],[5,11]] [54,55,56,57,58,59,60,61,62,63,64,65,66] [.pointer (some ⟨b1,0+1,none⟩),a.sv,jI (i:Int),elP a.sv ((i:Int).toNat*3),elP a.sv ((i:Int).toNat*3+0),jI ((a.ss.getD i sq0).kd),.pointer (some ⟨b2,0+1,none⟩),b.sv,jI (i:Int),elP b.sv ((i:Int).toNat*3),elP b.sv ((i:Int).toNat*3+0),jI ((b.ss.getD i sq0).kd),.bool (((a.ss.getD i sq0).kd) != ((b.ss.getD i sq0).kd))] (by kernel_rfl) A ?_ ?_
 exact⟨bK A (cQ 1 A A A) A,bK A (aN A A A (aH 1 A A)) A,bK A (aK A) A,bK A (dF 3 A A A A (aE ra.sq)) A,bK A (cC (k0:=0) A A A (aE ra.sq) (by omega)) A,bK A (bG (u:=jI ((a.ss.getD i sq0).kd)) A A A (aE ra.sq) ((dE sqC 3 (fun _=>A) a.ss sq0 (show i<_ by omega) (by decide)).trans A)) A,bK A (cQ 1 A A A) A,bK A (aN A A A (aH 0 A A)) A,bK A (aK A) A,bK A (dF 3 A A A A (aE rb_.sq)) A,bK A (cC (k0:=0) A A A (aE rb_.sq) (by omega)) A,bK A (bG (u:=jI ((b.ss.getD i sq0).kd)) A A A (aE rb_.sq) ((dE sqC 3 (fun _=>A) b.ss sq0 (show i<_ by omega) (by decide)).trans A)) A,bK A (dC A A A A) A,trivial⟩
 simp only[List.drop_succ_cons,List.drop_zero]
 refine bR ?_
 refine fU A (fun h11=>?_) (fun h11=>?_)
 have h11p:(a.ss.getD i sq0).kd≠(b.ss.getD i sq0).kd:=bne_iff_ne.1 h11
 refine bD 1 A ?_
 refine aV (aQ ?_)
 refine fL ?_
 refine aQ (aL ?_)
 exact cA A A (congrArg _ (gB (fun c=>by first|exact han c.ha|exact hbn c.hb|(have c1:=c.ins;have c2:=c.ss;have c3:=c.os;have c4:=c.c20;omega)|(have c5:=c.kd i (by omega);omega))).symm)
 have h11p:(a.ss.getD i sq0).kd=(b.ss.getD i sq0).kd:=(bne_eq_false_iff_eq.1 h11)
 refine fP (cK (bJ (aP A (dM A A A) (dJ 1 A ?_))))
 exact cU (i+1) ⟨by omega,fun j hj=>by by_cases e9:j=i;(subst e9;omega);exact hkd j (by omega)⟩ (by omega) (cT A) (dS A)
 refine bR (nG A ?_)
 refine bM (dI ?_)
 refine aO (bF (bD 1 A ?_))
 exact aV (cA A A (congrArg _ (oM (⟨hak,hbk,by omega,by omega,by omega,by omega,fun i hi=>(hkd i (by omega)).symm⟩:CmpOk a b)).symm))
 have hbn:=oN h4
 refine aM 33 A ?_
 refine aU 3 A (aR A (bD 1 A ?_))
 refine aV (aL ?_)
 exact cA A A (congrArg _ (gB (fun c=>by first|exact han c.ha|exact hbn c.hb|(have c1:=c.ins;have c2:=c.ss;have c3:=c.os;have c4:=c.c20;omega)|(have c5:=c.kd i (by omega);omega))).symm)
 have han:=oN h3
 refine aM 34 A ?_
 refine aU 6 A (aR A (aC (bZ 1 A (?_))))
 refine bR ?_
 refine aV (aL ?_)
 exact cA A A (congrArg _ (gB (fun c=>by first|exact han c.ha|exact hbn c.hb|(have c1:=c.ins;have c2:=c.ss;have c3:=c.os;have c4:=c.c20;omega)|(have c5:=c.kd i (by omega);omega))).symm)
noncomputable def mtO (a b:Nt):Option (List An×Int):=if pB (CmpOk a b)=true then mitO a b else none
theorem pR {a b:Nt}(c:CmpOk a b):mtO a b=mitO a b:=if_pos (oM c)
theorem jD {a b:Nt}(c:¬CmpOk a b):mtO a b=none:=if_neg (by rw[gB c];decide)
theorem vX {a b:Nt}{r:List An×Int}(h:mtO a b=some r):CmpOk a b∧mitO a b=some r:=by
  by_cases c:CmpOk a b
  · exact⟨c,by rw[pR c] at h;exact h⟩
  · rw[jD c] at h;cases h
def MtIs (a b m:Nt):Prop:=∀r,mtO a b=some r→m.ins=a.ins+a.ss.length∧m.ss=[]∧m.gs=r.1∧m.os=[r.2]
theorem MtIs.none {a b m:Nt}(h:mtO a b=none):MtIs a b m:=fun r e=>by rw[h] at e;cases e
abbrev nt0:Nt:=⟨0,.slice none 0 0,.slice none 0 0,.slice none 0 0,[],[],[]⟩
def ntC (n:Nt):List Value:=[.int .i64 n.ins,n.sv,n.av,n.ov]
abbrev nk_o (a b:Nt) (k:Nat):Nt:=[a,b].getD k nt0
theorem Gs {p:Nt→Prop}{a b:Nt}(ha:p a) (hb:p b) {k:Nat}(hk:k<2):p (nk_o a b k):=by
  rcases(show k=0∨k=1 by omega) with rfl|rfl
  · exact ha
  · exact hb
theorem CmpOk.nk {a b:Nt}(c:CmpOk a b) {k:Nat}(hk:k<2):NtOk (nk_o a b k)∧(nk_o a b k).fst=a.fst:=Gs (p:=fun n=>NtOk n∧n.fst=a.fst) ⟨c.ha,rfl⟩ ⟨c.hb,c.fst⟩ hk
inductive MitI (a b:Nt):Nat→List An→List (List Int)→Prop
  | zero:MitI a b 0 [] []
  | one {g pa}:impO a.fst a.gs [] (lfO a.fst)=some (g,pa)→MitI a b 1 g [rtM a pa]
  | two {g1 pa g pb}:impO a.fst a.gs [] (lfO a.fst)=some (g1,pa)→impO a.fst b.gs g1 (lfO a.fst)=some (g,pb)→MitI a b 2 g [rtM a pa,rtM b pb]
theorem MitI.len {a b:Nt}{k:Nat}{g:List An}{xss:List (List Int)}(h:MitI a b k g xss):xss.length=k:=by cases h<;>rfl
theorem MitI.next {a b:Nt}{k:Nat}{g0 g:List An}{xss:List (List Int)}{ps:List Int}(hk:k<2) (h:MitI a b k g0 xss) (e:impO a.fst (nk_o a b k).gs g0 (lfO a.fst)=some (g,ps)):MitI a b (k+1) g (xss++[rtM (nk_o a b k) ps]):=by
  cases h with
  | zero=>exact .one e
  | one e1=>exact .two e1 e
  | two e1 e2=>omega
theorem MitI.fail {a b:Nt}(c:CmpOk a b) {k:Nat}{g0:List An}{xss:List (List Int)}(hk:k<2) (h:MitI a b k g0 xss) {i:Nat}(e:impO a.fst ((nk_o a b k).gs.take i) g0 (lfO a.fst)=none):mtO a b=none:=by
  have e:impO a.fst (nk_o a b k).gs g0 (lfO a.fst)=none:=by have:=qX ((nk_o a b k).gs.drop i) e;rwa [List.take_append_drop] at this
  rw[pR c]
  unfold mitO
  cases h with
  | zero=>rw[show impO a.fst a.gs [] (lfO a.fst)=none from e];rfl
  | one e1=>rw[e1];show(impO a.fst b.gs _ (lfO a.fst)).bind _=none;rw[show impO a.fst b.gs g0 (lfO a.fst)=none from e];rfl
  | two e1 e2=>omega
theorem MitI.run {a b:Nt}(c:CmpOk a b) {k:Nat}{g0:List An}{xss:List (List Int)}(hk:k<2) (h:MitI a b k g0 xss) {i:Nat}(hi:i≤(nk_o a b k).gs.length) {g:List An}{ps:List Int}(e:impO a.fst ((nk_o a b k).gs.take i) g0 (lfO a.fst)=some (g,ps)) :
    NtOk (withG (mt0 a) g)∧Im (nk_o a b k) (mt0 a) g ps∧ps.length=((nk_o a b k).fst+i).toNat∧Ext (mt0 a) g0 g:=by
  cases h with
  | zero=>exact imp1 c.ha c.c20 hi e
  | one e1=>exact imp2 c e1 hi e
  | two e1 e2=>omega
theorem mA {f:Int}{xs:List An}{gs:List An}{ps:List Int}{i:Nat}(hi:i<xs.length) {g:List An}{qs:List Int}(e:impO f (xs.take i) gs ps=some (g,qs)):impO f (xs.take (i+1)) gs ps=(andO f g (mpL qs (xs.getD i an0).a) (mpL qs (xs.getD i an0).b)).bind fun s=>some (s.1,qs++[s.2]):=by
  rw[eT an0 hi,mB,e];rfl
theorem Im.map {a m:Nt}{gs:List An}{ps:List Int}(h:Im a m gs ps) {c:Int}(hc:(ps.length:Int)=c):MapOk ps c (m.fst+gs.length):=⟨hc,fun k hk=>(h k hk).1⟩
theorem Gt {a m:Nt}{gs:List An}{ps:List Int}(h:Im a m gs ps) {l c:Int}(hc:(ps.length:Int)=c) (hl:LtOk l c):(0≤ps.getD (l / 2).toNat 0∧ps.getD (l / 2).toNat 0<2*(m.fst+gs.length))∧LtOk (mpL ps l) (m.fst+gs.length):=⟨((h.map hc).lit hl).1,((h.map hc).lit hl).2⟩
theorem Ag {C:Nat}{ps:List Int}{l:Int}(h:(l / 2).toNat<ps.length):mpL (fillZ C ps) l=mpL ps l:=by unfold mpL;rw[jT h]
theorem tU (a:Nt) (ps:List Int):(rtM a ps).length=(rtsL a a.ss.length).length:=by unfold rtM;rw[List.length_map]
structure MitJ (a b:Nt) (xs ys:List Int) (g0:List An):Prop where
  ok:NtOk (withG (mt0 a) g0)
  len:ys.length=xs.length
  rts:xs.length=(rtsL a a.ss.length).length
  lit:∀p∈xs.zip ys,LtOk p.1 ((mt0 a).fst+g0.length)∧LtOk p.2 ((mt0 a).fst+g0.length)
  out:mtO a b=jnO a.fst (xs.zip ys) g0 0
theorem MitI.join {a b:Nt}(c:CmpOk a b) {g:List An}{rs:List CRow}(h:MitI a b 2 g (rs.map CRow.xs)):MitJ a b (rs.getD 0 crow0).xs (rs.getD 1 crow0).xs g:=by
  obtain⟨u,v,rfl⟩:∃u v,rs=[u,v]:=by
    have:=h.len
    rw[List.length_map] at this
    match rs,this with
    | [u,v],_=>exact⟨u,v,rfl⟩
  have h:MitI a b 2 g [u.xs,v.xs]:=h
  show MitJ a b u.xs v.xs g
  generalize hX:[u.xs,v.xs]=X at h
  cases h with
  | two e1 e2=>
    obtain⟨h1,h2⟩:=List.cons.inj hX
    obtain⟨h2, -⟩:=List.cons.inj h2
    have hI:=Imp2.of c e1 e2
    refine⟨hI.ok,by rw[h1,h2,tU,tU];exact c.rts,by rw[h1,tU],by rw[h1,h2];exact hI.lits c,?_⟩
    rw[pR c,h1,h2];unfold mitO;rw[e1]
    show(impO a.fst b.gs _ (lfO a.fst)).bind _=_
    rw[e2];rfl
theorem Ck {xs ys:List Int}(h:ys.length=xs.length) {i:Nat}(hi:i<xs.length):(xs.zip ys).getD i (0,0)=(xs.getD i 0,ys.getD i 0):=by
  rw[List.getD_eq_getElem?_getD,List.getD_eq_getElem?_getD,List.getD_eq_getElem?_getD,List.getElem?_eq_getElem (by rw[List.length_zip];omega),List.getElem?_eq_getElem hi,List.getElem?_eq_getElem (by omega)]
  simp
theorem pL {xs ys:List Int}(h:ys.length=xs.length):(xs.zip ys).length=xs.length:=by rw[List.length_zip,h,Nat.min_self]
theorem MitJ.run {a b:Nt}{xs ys:List Int}{g0:List An}(h:MitJ a b xs ys g0) {i:Nat}{g:List An}{s:Int}(hi:i≤xs.length) (e:jnO a.fst ((xs.zip ys).take i) g0 0=some (g,s)):NtOk (withG (mt0 a) g)∧Ext (mt0 a) g0 g∧LtOk s ((mt0 a).fst+g.length):=by
  obtain⟨j1,j2,j3⟩:=yR (m:=mt0 a) rfl h.ok h.lit i g s (by rw[pL h.len];exact hi) (by rw[fT];exact e)
  exact⟨j1,j2,j3.1⟩
theorem MitJ.at {a b:Nt}{xs ys:List Int}{g0:List An}(h:MitJ a b xs ys g0) {i:Nat}{g:List An}(hi:i<xs.length) (hx:Ext (mt0 a) g0 g):LtOk (xs.getD i 0) ((mt0 a).fst+g.length)∧LtOk (ys.getD i 0) ((mt0 a).fst+g.length):=by
  have:=h.lit ((xs.zip ys).getD i (0,0)) (bS (by rw[pL h.len];exact hi))
  rw[Ck h.len hi] at this
  exact⟨hx.lit this.1,hx.lit this.2⟩
theorem MitJ.step {a b:Nt}{xs ys:List Int}{g0:List An}(h:MitJ a b xs ys g0) {i:Nat}{g:List An}{s:Int}(hi:i<xs.length) (e:jnO a.fst ((xs.zip ys).take i) g0 0=some (g,s)):jnO a.fst ((xs.zip ys).take (i+1)) g0 0=(xorO a.fst g (xs.getD i 0) (ys.getD i 0)).bind fun q=>orO a.fst q.1 s q.2:=by
  rw[eT ((0:Int),(0:Int)) (by rw[pL h.len];exact hi),nV,e,Ck h.len hi];rfl
theorem MitJ.fail {a b:Nt}{xs ys:List Int}{g0:List An}(h:MitJ a b xs ys g0) {i:Nat}(hi:i<xs.length) (e:jnO a.fst ((xs.zip ys).take (i+1)) g0 0=none):mtO a b=none:=by
  rw[h.out]
  have:=Ab ((xs.zip ys).drop (i+1)) e
  rwa [List.take_append_drop] at this
theorem MitJ.fin {a b:Nt}{xs ys:List Int}{g0:List An}(h:MitJ a b xs ys g0) {i:Nat}{g:List An}{s:Int}(hi:¬i<xs.length) (e:jnO a.fst ((xs.zip ys).take i) g0 0=some (g,s)):mtO a b=some (g,s):=by
  rw[h.out,←e,List.take_of_length_le (by rw[pL h.len];omega)]
theorem oS {N:Nat}{w0:World}{l l':List HP}{env:List (Nat×Value)}{Q:Post}{e:Exit}(h:l=l') (k:HQ N w0 l' env e Q):HQ N w0 l env e Q:=h▸k
def MkLe (bs:List Bl) (M:Int):Prop:=∀k:Nat,(bs.getD k bl0).b=true→(k:Int)≤M
theorem MkLe.set {bs:List Bl}{M:Int}(h:MkLe bs M) {j:Nat}{b:Bl}(hj:(j:Int)≤M):MkLe (bs.set j b) M:=fun k hk=>by
  by_cases e:j=k
  · subst e;exact hj
  · rw[List.getD_eq_getElem?_getD,List.getElem?_set_ne e,←List.getD_eq_getElem?_getD] at hk;exact h k hk
theorem MkLe.start (n:Nat) {j:Nat}{b:Bl}:MkLe ((List.replicate n bl0).set j b) j:=fun k hk=>by
  by_cases e:j=k
  · subst e;exact Int.le_refl _
  · rw [List.getD_eq_getElem?_getD, List.getElem?_set_ne e, List.getElem?_replicate] at hk
    split at hk<;>exact absurd hk (by decide)
theorem MkLe.startI (n:Nat) {node:Int}{b:Bl}(h0:0≤node):MkLe ((List.replicate n bl0).set node.toNat b) node:=by
  have h9:=MkLe.start n (j:=node.toNat) (b:=b)
  rwa [Int.toNat_of_nonneg h0] at h9
def mkStep (n:Nt) (bs:List Bl) (i:Nat):List Bl:=if (bs.getD (n.fst+(i:Int)).toNat bl0).b=true then (bs.set ((n.gs.getD i an0).a / 2).toNat ⟨true⟩).set ((n.gs.getD i an0).b / 2).toNat ⟨true⟩ else bs
def mkD (n:Nt) (bs:List Bl):Nat→List Bl
  | 0=>bs
  | d+1=>mkStep n (mkD n bs d) (n.gs.length-1-d)
theorem yJ (n:Nt) (bs:List Bl) (i:Nat):(mkStep n bs i).length=bs.length:=by unfold mkStep;split<;>simp
theorem pS (n:Nt) (bs:List Bl):∀d,(mkD n bs d).length=bs.length
  | 0=>rfl
  | d+1=>by unfold mkD;rw[yJ,pS n bs d]
theorem Dn {n:Nt}(hn:NtOk n) {bs:List Bl}{M:Int}(h:MkLe bs M):∀d,d≤n.gs.length→MkLe (mkD n bs d) M
  | 0,_=>h
  | d+1,hd=>by
    have ih:=Dn hn h d (by omega)
    unfold mkD mkStep
    split
    · rename_i hb
      have h1:=ih _ hb
      have ha:=hn.an (n.gs.length-1-d) (by omega)
      unfold LtOk at ha
      have hf:0≤n.fst:=by have:=hn.i0;unfold Nt.fst;omega
      exact(ih.set (by omega)).set (by omega)
    · exact ih
theorem vZ {n:Nt}{bs:List Bl}{kk:Nat}(h0:0<kk) (h1:kk≤n.gs.length):mkD n bs (n.gs.length-(kk-1))=mkStep n (mkD n bs (n.gs.length-kk)) (kk-1):=by
  rw[show n.gs.length-(kk-1)=(n.gs.length-kk)+1 by omega]
  show mkStep n _ (n.gs.length-1-(n.gs.length-kk))=_
  rw[show n.gs.length-1-(n.gs.length-kk)=kk-1 by omega]
theorem yI {n:Nt}{bs:List Bl}{i:Nat}{j a b:Nat}(hj:(n.fst+(i:Int)).toNat=j) (hb:(bs.getD j bl0).b=true) (ha:((n.gs.getD i an0).a / 2).toNat=a) (hb2:((n.gs.getD i an0).b / 2).toNat=b):(bs.set a ⟨true⟩).set b ⟨true⟩=mkStep n bs i:=by
  unfold mkStep;rw[hj,if_pos hb,ha,hb2]
theorem Bh {n:Nt}{bs:List Bl}{i:Nat}{j:Nat}(hj:(n.fst+(i:Int)).toNat=j) (hb:(bs.getD j bl0).b=false):bs=mkStep n bs i:=by
  unfold mkStep;rw[hj,if_neg (by rw[hb];decide)]
def mkdL (bs:List Bl) (k:Nat):List Int:=((List.range k).filter fun i:Nat=>(bs.getD i bl0).b).map fun i:Nat=>(i:Int)
theorem Dl {bs:List Bl}{k:Nat}(h:(bs.getD k bl0).b=true):mkdL bs k++[(k:Int)]=mkdL bs (k+1):=by
  unfold mkdL;rw[List.range_succ,List.filter_append,List.map_append,List.filter_cons_of_pos (p:=fun i:Nat=>(bs.getD i bl0).b) h];rfl
theorem Fm {bs:List Bl}{k:Nat}(h:(bs.getD k bl0).b=false):mkdL bs k=mkdL bs (k+1):=by
  unfold mkdL;rw[List.range_succ,List.filter_append,List.map_append,List.filter_cons_of_neg (p:=fun i:Nat=>(bs.getD i bl0).b) (by simpa using h)];simp
theorem vY (bs:List Bl) (k:Nat):(mkdL bs k).length≤k:=by
  unfold mkdL;rw[List.length_map];have:=List.length_filter_le (fun i=>(bs.getD i bl0).b) (List.range k);simpa using this
theorem Dm {bs:List Bl}{k:Nat}{x:Int}(h:x∈mkdL bs k):∃i:Nat,x=(i:Int)∧i<k∧(bs.getD i bl0).b=true:=by
  unfold mkdL at h
  simp only[List.mem_map,List.mem_filter,List.mem_range] at h
  obtain⟨i,⟨h1,h2⟩,rfl⟩:=h
  exact⟨i,rfl,h1,h2⟩
def coneS (n:Nt) (node:Int):List Int:=mkdL (mkD n ((List.replicate n.cnt.toNat bl0).set node.toNat ⟨true⟩) n.gs.length) n.cnt.toNat
theorem Cb {n:Nt}(hn:NtOk n) {node:Int}(h0:0≤node):∀x∈coneS n node,0≤x∧x≤node:=fun x hx=>by
  obtain⟨i,rfl,h1,h2⟩:=Dm hx
  have:=Dn hn (MkLe.startI n.cnt.toNat (b:=⟨true⟩) h0) n.gs.length (Nat.le_refl _) i h2
  omega
theorem Cc (n:Nt) (node:Int) (hc:0≤n.cnt):((coneS n node).length:Int)≤n.cnt:=by
  have:=vY (mkD n ((List.replicate n.cnt.toNat bl0).set node.toNat ⟨true⟩) n.gs.length) n.cnt.toNat
  unfold coneS;omega
structure SInv (s0:List Sq) (i:Nat) (c:Int) (zs:List Sq):Prop where
  sk:zs.map sqk=s0.map sqk
  ok:∀j,j<i→∀x∈(zs.getD j sq0).xs,LtOk x c
theorem SInv.start (s0:List Sq) (c:Int):SInv s0 0 c s0:=⟨rfl,fun j hj=>absurd hj (by omega)⟩
theorem SInv.len {s0:List Sq}{i:Nat}{c:Int}{zs:List Sq}(h:SInv s0 i c zs):zs.length=s0.length:=tM h.sk
theorem SInv.step {s0:List Sq}{i:Nat}{c:Int}{zs:List Sq}(h:SInv s0 i c zs) (hi:i<s0.length) {e:Sq}(he:sqk e=sqk (zs.getD i sq0)) (hx:∀x∈e.xs,LtOk x c):SInv s0 (i+1) c (zs.set i e):=by
  have hl:=h.len
  refine⟨by rw[Ez he (by omega)];exact h.sk,fun j hj=>?_⟩
  by_cases c:i=j
  · subst c;rw[eR (by omega)];exact hx
  · rw[List.getD_eq_getElem?_getD,List.getElem?_set_ne c,←List.getD_eq_getElem?_getD];exact h.ok j (by omega)
theorem SInv.x4 {s0:List Sq}{i:Nat}{c:Int}{zs:List Sq}(h:SInv s0 i c zs) (h0:∀s∈s0,s.xs.length≤4) {k:Nat}(hk:k<s0.length):(zs.getD k sq0).xs.length≤4:=by
  have e:=uD (d:=sq0) h.sk hk
  simp only[sqk,Prod.mk.injEq] at e
  rw[e.2.2];exact h0 _ (bS hk)
theorem SInv.same {s0:List Sq}{i:Nat}{c:Int}{zs:List Sq}(h:SInv s0 i c zs) {k:Nat}(hk:k<s0.length):(zs.getD k sq0).xs.length=(s0.getD k sq0).xs.length:=by
  have e:=uD (d:=sq0) h.sk hk
  simp only[sqk,Prod.mk.injEq] at e
  exact e.2.2
theorem sqv_x4 {zs ss:List Sq}(h:zs.map sqv=ss.map sqv) (h0:∀s∈ss,s.xs.length≤4):∀s∈zs,s.xs.length≤4:=fun s hs=>by
  obtain⟨r,hr,he⟩:=qS h hs
  simp only[sqv,Prod.mk.injEq] at he
  rw[←he.2.2];exact h0 r hr
theorem SInv.all {s0:List Sq}{i:Nat}{c:Int}{zs:List Sq}(h:SInv s0 i c zs) (hi:i=s0.length):∀s∈zs,∀x∈s.xs,LtOk x c:=fun s hs=>by
  obtain⟨j,hj,rfl⟩:=List.mem_iff_getElem.1 hs
  have:=h.ok j (by have:=h.len;omega)
  rwa [List.getD_eq_getElem?_getD,List.getElem?_eq_getElem hj,Option.getD_some] at this
theorem kV (tos lits:List Int):(mpS tos lits).length=lits.length:=by unfold mpS;rw[List.length_map]
theorem Aw {k:Nat}{c:Int}(hc:0<c):∀x∈List.replicate k (0:Int),LtOk x c:=fun x hx=>by rw[List.eq_of_mem_replicate hx];unfold LtOk;omega
theorem qI {n m:Nt}(h:Skel n m) (hm:NtOk m) {zs:List Sq}{gs:List An}{os:List Int}{sv av ov:Value}(hz:zs.map sqk=m.ss.map sqk) (hg:AnsOk n.fst gs) (hgl:gs.length≤300) (hx:∀s∈zs,∀x∈s.xs,LtOk x (n.fst+gs.length)) (ho:∀x∈os,LtOk x (n.fst+gs.length)) (hol:os.length≤16) :
    NtOk (Nt.mk m.ins sv av ov zs gs os)∧Skel n (Nt.mk m.ins sv av ov zs gs os):=by
  have hs:Skel n (Nt.mk m.ins sv av ov zs gs os):=⟨h.ins,hz.trans h.ss⟩
  have hs2:Skel m (Nt.mk m.ins sv av ov zs gs os):=⟨rfl,hz⟩
  have hf:=hs.fst
  have hc:(Nt.mk m.ins sv av ov zs gs os).cnt=n.fst+gs.length:=by show(Nt.mk m.ins sv av ov zs gs os).fst+(gs.length:Int)=_;rw[hf]
  exact⟨⟨hm.i0,hm.i1,by rw[hs2.len];exact hm.s1,hgl,hol,hs2.sq hm.sq,fun s hs x hxx=>by rw[hc];exact hx s hs x hxx,fun k hk=>by rw[hf];exact hg k hk,fun x hxx=>by rw[hc];exact ho x hxx⟩,hs⟩
open Go.RowKit
def tInH (v:Value):Int:=match v with | .tuple #[.agg #[.int .i64 i,_,_,_],_]=>i|_=>0
def tSvH (v:Value):Value:=match v with | .tuple #[.agg #[_,x,_,_],_]=>x|_=>undef
def tAvH (v:Value):Value:=match v with | .tuple #[.agg #[_,_,x,_],_]=>x|_=>undef
def tOvH (v:Value):Value:=match v with | .tuple #[.agg #[_,_,_,x],_]=>x|_=>undef
def tXH (v:Value):Int:=match v with | .tuple #[_,.int .i64 i]=>i|_=>0
theorem pD (n:Nt) (bs:List Bl) (v:Value) (w:World) (hr:RdsNt w n) (hn:NtOk n) (hv:RdsW w v 1 bs.length (bs.flatMap blC)) (hbl:(bs.length:Int)=n.cnt) :
   Calls Tryz.prog 107 #[.agg #[.int .i64 n.ins,n.sv,n.av,n.ov],v] w (Ret w (fun u_ p_=>p_=[rS9 4 1 u_ (mkD n bs n.gs.length) blC])):=by
 have hi0:=hn.i0
 have hi1:=hn.i1
 have hs1:=hn.s1
 have ha1:=hn.a1
 have ho1:=hn.o1
 have hcnt:n.cnt=1+n.ins+n.ss.length+n.gs.length:=rfl
 have hfst:n.fst=1+n.ins+n.ss.length:=rfl
 refine bN (N:=44) (args:=[.agg #[jI n.ins,n.sv,n.av,n.ov],v]) Tryz.func107 A A (cF ?_)
 refine cR A (cN A A) ?_
 intro b1
 refine aU 1 A (cF ?_)
 refine dP A (dH (s:=1) A Tryz.underlying56 A) ?_
 intro g2
 refine aM 1 A (cW (i:=0) (z:=.bool false) (bytes:=1) (n':=bs.length) (xs':=(bs.flatMap blC)) A A A A Tryz.underlying56 (by kernel_rfl) A A A A (aE hv) (kZ blC bs (fun r u hu=>by simp[blC] at hu;first|(subst hu;rfl)|(rcases hu with rfl|rfl<;>rfl)|(rcases hu with rfl|rfl|rfl<;>rfl)|(rcases hu with rfl|rfl|rfl|rfl<;>rfl))) (by first|omega|(simp only[List.length_take,List.length_drop];omega)) (Nat.zero_add _) (List.nil_append _) (fun _=>A) ?_)
 intro v3
 refine aU 1 A (eP (aP A (cQ 2 A A A) (aP A (aN A A A (aH 1 A A)) (aP A (bC A Tryz.underlying25 A (aE hr.an)) (aP A (iM A A A) (dJ 1 A ?_))))))
 refine bF (bE ?_)
 refine qZ (α:=Nat) (β:=Value) (γ:=List Bl) (fun kk gu zs=>[rS9 4 1 gu zs blC,nB9 b1 n]) (fun kk gu zs=>[(0,.agg #[jI n.ins,n.sv,n.av,n.ov]),(1,v),(2,pI b1),(4,.slice none 0 0),(5,gu),(6,jI ((kk:Int)-1))]) (fun kk gu zs=>kk≤n.gs.length∧zs=mkD n bs (n.gs.length-kk)) (fun kk gu zs=>kk) n.gs.length _ bs ⟨Nat.le_refl _,by rw[Nat.sub_self];rfl⟩ (cT rfl) (dS rfl) ?_
 intro kk gu zs hi4
 obtain⟨hkk,hz⟩:=hi4
 have hzl:zs.length=bs.length:=by rw[hz,pS]
 refine aC (aC (bZ 1 A ?_))
 refine gO A A A A A A (fun h5=>?_) (fun h5=>?_)
 refine bR (aR A (bY (fM (aC (bZ 1 A (aP A (aF (cs:=[jI n.ins,n.sv,n.av,n.ov]) A A A A A (aD 1 A 0 A)) ?_))))))
 refine dA A (aJ A A (fun w hm=>aY (dD n w (hr.below hm.bel) hn))) (aM 1 A (aP A (dM A A A) (aP A (dF 1 A A A A (aG 0 A)) ?_)))
 refine aP A (bG (u:=.bool ((zs.getD ((n.fst+((kk:Int)-1)).toNat) bl0).b)) A A A (aG 0 A) (dG blC (fun r=>.bool r.b) (fun _=>A) zs bl0 (show(n.fst+((kk:Int)-1)).toNat<_ by omega))) (bW (fun h6=>?_) (fun h6=>?_))
 have hmk:=h6
 refine bR (aR A (cF ?_))
 have ha:=hn.an ((kk:Int)-1).toNat (by omega)
 unfold LtOk at ha
 refine aM 1 A (aP A (cQ 2 A A A) (aP A (aN A A A (aH 1 A A)) (aM 1 A (aP A (dF 2 A A A A (aE hr.an)) (aP A (cC (k0:=0) A A A (aE hr.an) (by omega)) ?_)))))
 refine aP A (bG (u:=jI ((n.gs.getD ((((kk:Int)-1)).toNat) an0).a)) A A A (aE hr.an) ((dE anC 2 (fun _=>A) n.gs an0 (show(((kk:Int)-1)).toNat<_ by omega) (by decide)).trans A)) (aP A (fF A A A (by refine⟨?_,?_,?_⟩<;>omega)) ?_)
 refine aP A (dF 1 A A A A (aG 0 A)) (eN (i:=0) (n':=(zs.set ((((n.gs.getD ((((kk:Int)-1)).toNat) an0).a) / 2).toNat) { zs.getD ((((n.gs.getD ((((kk:Int)-1)).toNat) an0).a) / 2).toNat) bl0 with b:=true }).length) A A A A A A A A (by first|omega|(simp only[List.length_set];omega)) List.length_set.symm (fV blC (fun r=>.bool r.b) (fun _=>A) _ ({ zs.getD ((((n.gs.getD ((((kk:Int)-1)).toNat) an0).a) / 2).toNat) bl0 with b:=true }) A) A ?_)
 refine bR (bZ 1 A (aP A (cQ 2 A A A) (aP A (aN A A A (aH 1 A A)) (aM 1 A (aP A (dF 2 A A A A (aE hr.an)) (aP A (cC (k0:=1) A A A (aE hr.an) (by omega)) ?_))))))
 refine aP A (bG (u:=jI ((n.gs.getD ((((kk:Int)-1)).toNat) an0).b)) A A A (aE hr.an) ((dE anC 2 (fun _=>A) n.gs an0 (show(((kk:Int)-1)).toNat<_ by omega) (by decide)).trans A)) (aP A (fF A A A (by refine⟨?_,?_,?_⟩<;>omega)) ?_)
 refine aP A (dF 1 A A A A (aG 0 A) (by omega) (by first|omega|(simp only[List.length_set];omega))) (eN (i:=0) (n':=((zs.set ((((n.gs.getD ((((kk:Int)-1)).toNat) an0).a) / 2).toNat) { zs.getD ((((n.gs.getD ((((kk:Int)-1)).toNat) an0).a) / 2).toNat) bl0 with b:=true }).set ((((n.gs.getD ((((kk:Int)-1)).toNat) an0).b) / 2).toNat) { (zs.set ((((n.gs.getD ((((kk:Int)-1)).toNat) an0).a) / 2).toNat) { zs.getD ((((n.gs.getD ((((kk:Int)-1)).toNat) an0).a) / 2).toNat) bl0 with b:=true }).getD ((((n.gs.getD ((((kk:Int)-1)).toNat) an0).b) / 2).toNat) bl0 with b:=true }).length) A A A A A A A A (by first|omega|(simp only[List.length_set];omega)) List.length_set.symm (fV blC (fun r=>.bool r.b) (fun _=>A) _ ({ (zs.set ((((n.gs.getD ((((kk:Int)-1)).toNat) an0).a) / 2).toNat) { zs.getD ((((n.gs.getD ((((kk:Int)-1)).toNat) an0).a) / 2).toNat) bl0 with b:=true }).getD ((((n.gs.getD ((((kk:Int)-1)).toNat) an0).b) / 2).toNat) bl0 with b:=true }) A) A ?_)
 refine dB (cK (bZ 1 A (aP A (iM A A A) (dJ 1 A ?_))))
 have hkn:((kk:Int)-1).toNat=kk-1:=by omega
 have hz2:(zs.set ((((n.gs.getD ((((kk:Int)-1)).toNat) an0).a) / 2).toNat) { zs.getD ((((n.gs.getD ((((kk:Int)-1)).toNat) an0).a) / 2).toNat) bl0 with b:=true }).set ((((n.gs.getD ((((kk:Int)-1)).toNat) an0).b) / 2).toNat) { (zs.set ((((n.gs.getD ((((kk:Int)-1)).toNat) an0).a) / 2).toNat) { zs.getD ((((n.gs.getD ((((kk:Int)-1)).toNat) an0).a) / 2).toNat) bl0 with b:=true }).getD ((((n.gs.getD ((((kk:Int)-1)).toNat) an0).b) / 2).toNat) bl0 with b:=true }=mkD n bs (n.gs.length-(kk-1)):=by rw[vZ (by omega) hkk];exact(hz▸yI (i:=kk-1) (by omega) hmk (by rw[hkn]) (by rw[hkn]))
 exact cI (kk-1) gu ((zs.set ((((n.gs.getD ((((kk:Int)-1)).toNat) an0).a) / 2).toNat) { zs.getD ((((n.gs.getD ((((kk:Int)-1)).toNat) an0).a) / 2).toNat) bl0 with b:=true }).set ((((n.gs.getD ((((kk:Int)-1)).toNat) an0).b) / 2).toNat) { (zs.set ((((n.gs.getD ((((kk:Int)-1)).toNat) an0).a) / 2).toNat) { zs.getD ((((n.gs.getD ((((kk:Int)-1)).toNat) an0).a) / 2).toNat) bl0 with b:=true }).getD ((((n.gs.getD ((((kk:Int)-1)).toNat) an0).b) / 2).toNat) bl0 with b:=true }) ⟨by omega,hz2⟩ (by omega) (bO [5,4,2,1,0] _ (sk 6 (congrArg (fun x=>some (Value.int .i64 x)) (by omega)) (aB _)) A) (dS A)
 have hmk:=h6
 refine bR (hH A (cK (bZ 1 A (aP A (iM A A A) (dJ 1 A ?_)))))
 have hkn:((kk:Int)-1).toNat=kk-1:=by omega
 have hz2:zs=mkD n bs (n.gs.length-(kk-1)):=by rw[vZ (by omega) hkk];exact(hz▸Bh (i:=kk-1) (by omega) hmk)
 exact cI (kk-1) gu zs ⟨by omega,hz2⟩ (by omega) (bO [5,4,2,1,0] _ (sk 6 (congrArg (fun x=>some (Value.int .i64 x)) (by omega)) (aB _)) A) (dS A)
 refine bR (aS A ?_)
 refine bM (dI ?_)
 refine aO (bF (bD 2 A ?_))
 exact aV (dX (post:=[rS9 4 1 gu zs blC]) A A (eJ [0] A) (by rw[hz,show n.gs.length-kk=n.gs.length by omega]))
theorem xJ (n:Nt) (w:World) (hr:RdsNt w n) (hn:NtOk n) :
   Calls Tryz.prog 99 #[.agg #[.int .i64 n.ins,n.sv,n.av,n.ov]] w (Ret w (fun u_ p_=>∃bs':List Bl,p_=[rS9 4 1 u_ bs' blC]∧bs'.length=n.cnt.toNat)):=by
 have hi0:=hn.i0
 have hi1:=hn.i1
 have hs1:=hn.s1
 have ha1:=hn.a1
 have ho1:=hn.o1
 have hcnt:n.cnt=1+n.ins+n.ss.length+n.gs.length:=rfl
 have hfst:n.fst=1+n.ins+n.ss.length:=rfl
 refine bN (N:=31) (args:=[.agg #[jI n.ins,n.sv,n.av,n.ov]]) Tryz.func99 A A (cF ?_)
 refine cR A (cN A A) ?_
 intro b1
 refine aU 1 A (eP (aP A (aF (cs:=[jI n.ins,n.sv,n.av,n.ov]) A A A A A (aD 0 A 0 A)) ?_))
 refine dA A (aJ A A (fun w hm=>aY (eA n w (hr.below hm.bel) hn))) (aU 1 A (aS A (bY (cF (aP A (aF (cs:=[jI n.ins,n.sv,n.av,n.ov]) A A A A A (aD 0 A 0 A)) ?_)))))
 refine dA A (aJ A A (fun w hm=>aY (cS n w (hr.below hm.bel) hn))) (dP A (gN (z:=.bool false) (s:=1) (bytes:=1) (n:=(List.replicate n.cnt.toNat bl0).length) (cs:=((List.replicate n.cnt.toNat bl0).flatMap blC)) A Tryz.underlying56 A (by decide) A A (by first|(rw[List.length_replicate];done)|(rw[List.length_replicate];omega)) (by first|(rw[List.length_replicate];done)|(rw[List.length_replicate];omega)) (by rw[List.length_replicate];omega) (jL blC 1 (fun _=>A) bl0 _ A n.cnt.toNat)) ?_)
 intro g2
 refine aU 1 A (cF (aP A (aF (cs:=[jI n.ins,n.sv,n.av,n.ov]) A A A A A (aD 1 A 0 A)) ?_))
 refine eB A A A (aJ A A (fun w hm=>gW n w (hr.below hm.bel) hn)) ?_
 intro v3 p4 R5
 subst R5
 refine aU 1 A (aC (bD 1 A (bE ?_)))
 refine gT (α:=Nat) (β:=List Bl) [0,1,2,3,4,8] rfl (fun q zs=>[rowE 3 1 v3 ((rtsL n n.ss.length).length) (mI (rtsL n n.ss.length)),rS9 4 1 (.slice (some ⟨g2,0,none⟩) ((List.replicate n.cnt.toNat bl0).length) ((List.replicate n.cnt.toNat bl0).length)) zs blC,nB9 b1 n]) (fun q zs=>[(5,jI (q:Int))]) (fun q zs=>q≤(rtsL n n.ss.length).length∧zs.length=n.cnt.toNat) (fun q zs=>(rtsL n n.ss.length).length-q) 0 _ ⟨Nat.zero_le _,by rw[List.length_replicate]⟩ (cT rfl) (dS rfl) ?_
 intro q zs hi6
 obtain⟨hq,hzl⟩:=hi6
 refine aC (aC (bZ 2 A ?_))
 have hzl9:=gM hn n.ss.length (Nat.le_refl _)
 refine aP A (bC A Tryz.underlying26 A (aG 0 A)) (bQ A A A A A A (fun h7=>?_) (fun h7=>?_))
 refine bR (aR A (bY (fM (bJ ?_))))
 have hlk:=eM hn (i:=q) (by omega)
 unfold LtOk at hlk
 refine aM 3 A (aP A (dF 1 A A A A (aG 0 A)) (aP A (bG (u:=jI ((rtsL n n.ss.length).getD q 0)) A A A (aG 0 A) (eS (show _<(rtsL n n.ss.length).length by omega))) ?_))
 refine aP A (fF A A A (by refine⟨?_,?_,?_⟩<;>omega)) ?_
 refine aP A (dF 1 A A A A (aG 1 A)) (eN (i:=1) (n':=(zs.set ((((rtsL n n.ss.length).getD q 0) / 2).toNat) { zs.getD ((((rtsL n n.ss.length).getD q 0) / 2).toNat) bl0 with b:=true }).length) A A A A A A A A (by first|omega|(simp only[List.length_set];omega)) List.length_set.symm (fV blC (fun r=>.bool r.b) (fun _=>A) _ ({ zs.getD ((((rtsL n n.ss.length).getD q 0) / 2).toNat) bl0 with b:=true }) A) A ?_)
 refine dB (cK (bZ 1 A (aP A (dM A A A) (dJ 1 A ?_))))
 exact cG (q+1) (zs.set ((((rtsL n n.ss.length).getD q 0) / 2).toNat) { zs.getD ((((rtsL n n.ss.length).getD q 0) / 2).toNat) bl0 with b:=true }) ⟨by omega,by rw[List.length_set];exact hzl⟩ (by omega) (cT rfl) (dS rfl)
 refine bR (aS A ?_)
 refine bM (dI ?_)
 refine aO (bF (cF (aP A (aF (cs:=[jI n.ins,n.sv,n.av,n.ov]) A A A A A (aD 2 A 0 A)) (aM 1 A ?_))))
 refine eB A A A (aJ A A (fun w hm=>pD n zs _ w (hr.below hm.bel) hn ((aG 1 A) w hm) (by first|omega|(simp only[List.length_set,List.length_replicate];omega)))) ?_
 intro v8 p9 R10
 subst R10
 have hb2:(mkD n zs n.gs.length).length=n.cnt.toNat:=by rw[pS];first|omega|(simp only[List.length_set,List.length_replicate];done)
 refine aU 1 A ?_
 exact aV (dX (post:=[rowE 4 1 v8 ((mkD n zs n.gs.length).length) ((mkD n zs n.gs.length).flatMap blC)]) A A (eJ [0] A) ⟨_,A,hb2⟩)
theorem Eu (n:Nt) (node:Int) (w:World) (hr:RdsNt w n) (hn:NtOk n) (hnd:0≤node∧node<n.cnt) :
   Calls Tryz.prog 101 #[.agg #[.int .i64 n.ins,n.sv,n.av,n.ov],.int .i64 node] w (Ret w (fun u_ p_=>p_=[rI9 3 u_ (coneS n node)])):=by
 have hi0:=hn.i0
 have hi1:=hn.i1
 have hs1:=hn.s1
 have ha1:=hn.a1
 have ho1:=hn.o1
 have hcnt:n.cnt=1+n.ins+n.ss.length+n.gs.length:=rfl
 have hfst:n.fst=1+n.ins+n.ss.length:=rfl
 refine bN (N:=47) (args:=[.agg #[jI n.ins,n.sv,n.av,n.ov],jI node]) Tryz.func101 A A (cF ?_)
 refine cR A (cN A A) ?_
 intro b1
 refine aU 1 A (cF ?_)
 refine dP A (dH (s:=1) A Tryz.underlying26 A) ?_
 intro g2
 refine aU 1 A (eP (aP A (aF (cs:=[jI n.ins,n.sv,n.av,n.ov]) A A A A A (aD 1 A 0 A)) ?_))
 refine dA A (aJ A A (fun w hm=>aY (eA n w (hr.below hm.bel) hn))) (aM 3 A ?_)
 refine bQ A A A A A A (fun h3=>absurd h3 (by omega)) (fun h3=>?_)
 refine aM 3 A (aP A (aF (cs:=[jI n.ins,n.sv,n.av,n.ov]) A A A A A (aD 1 A 0 A)) ?_)
 refine dA A (aJ A A (fun w hm=>aY (cS n w (hr.below hm.bel) hn))) (gO A A A A A A (fun h4=>absurd h4 (by omega)) (fun h4=>?_))
 refine aU 1 A (aS A (bY (cF (aP A (aF (cs:=[jI n.ins,n.sv,n.av,n.ov]) A A A A A (aD 1 A 0 A)) ?_))))
 refine dA A (aJ A A (fun w hm=>aY (cS n w (hr.below hm.bel) hn))) (dP A (gN (z:=.bool false) (s:=1) (bytes:=1) (n:=(List.replicate n.cnt.toNat bl0).length) (cs:=((List.replicate n.cnt.toNat bl0).flatMap blC)) A Tryz.underlying56 A (by decide) A A (by first|(rw[List.length_replicate];done)|(rw[List.length_replicate];omega)) (by first|(rw[List.length_replicate];done)|(rw[List.length_replicate];omega)) (by rw[List.length_replicate];omega) (jL blC 1 (fun _=>A) bl0 _ A n.cnt.toNat)) ?_)
 intro g5
 refine aU 1 A (cF ?_)
 have hrl:(List.replicate n.cnt.toNat bl0).length=n.cnt.toNat:=List.length_replicate
 refine aM 2 A (aP A (dF 1 A A A A (aG 0 A)) ?_)
 refine eN (i:=0) (n':=((List.replicate n.cnt.toNat bl0).set (node.toNat) { (List.replicate n.cnt.toNat bl0).getD (node.toNat) bl0 with b:=true }).length) A A A A A A A A (by first|omega|(simp only[List.length_set];omega)) List.length_set.symm (fV blC (fun r=>.bool r.b) (fun _=>A) _ ({ (List.replicate n.cnt.toNat bl0).getD (node.toNat) bl0 with b:=true }) A) A (bR (cF (aP A (aF (cs:=[jI n.ins,n.sv,n.av,n.ov]) A A A A A (aD 2 A 0 A)) (aM 1 A ?_))))
 refine eB A A A (aJ A A (fun w hm=>pD n ((List.replicate n.cnt.toNat bl0).set (node.toNat) { (List.replicate n.cnt.toNat bl0).getD (node.toNat) bl0 with b:=true }) _ w (hr.below hm.bel) hn ((aG 0 A) w hm) (by first|omega|(simp only[List.length_set,List.length_replicate];omega)))) ?_
 intro v6 p7 R8
 subst R8
 have hb2:(mkD n ((List.replicate n.cnt.toNat bl0).set (node.toNat) { (List.replicate n.cnt.toNat bl0).getD (node.toNat) bl0 with b:=true }) n.gs.length).length=n.cnt.toNat:=by rw[pS];first|omega|(simp only[List.length_set,List.length_replicate];done)
 refine aU 1 A (aC (bD 1 A (bE ?_)))
 refine iC (α:=Nat) (β:=Value) (γ:=List Int) [0,1,2,4,6,21] A (fun k gu xs=>[rowE 4 1 v6 ((mkD n ((List.replicate n.cnt.toNat bl0).set (node.toNat) { (List.replicate n.cnt.toNat bl0).getD (node.toNat) bl0 with b:=true }) n.gs.length).length) ((mkD n ((List.replicate n.cnt.toNat bl0).set (node.toNat) { (List.replicate n.cnt.toNat bl0).getD (node.toNat) bl0 with b:=true }) n.gs.length).flatMap blC),rowE 4 1 (.slice (some ⟨g5,0,none⟩) ((List.replicate n.cnt.toNat bl0).length) ((List.replicate n.cnt.toNat bl0).length)) (((List.replicate n.cnt.toNat bl0).set (node.toNat) { (List.replicate n.cnt.toNat bl0).getD (node.toNat) bl0 with b:=true }).length) (((List.replicate n.cnt.toNat bl0).set (node.toNat) { (List.replicate n.cnt.toNat bl0).getD (node.toNat) bl0 with b:=true }).flatMap blC),rI9 3 gu xs,nB9 b1 n]) (fun k gu xs=>[(5,gu),(7,jI (k:Int))]) (fun k gu xs=>k≤n.cnt.toNat∧xs=mkdL (mkD n ((List.replicate n.cnt.toNat bl0).set (node.toNat) { (List.replicate n.cnt.toNat bl0).getD (node.toNat) bl0 with b:=true }) n.gs.length) k) (fun k gu xs=>n.cnt.toNat-k) 0 _ [] ⟨Nat.zero_le _,A⟩ (cT A) (dS A) ?_
 intro k gu xs hi9
 obtain⟨hk,hz⟩:=hi9
 have hxl:xs.length≤k:=by rw[hz];exact vY _ _
 refine aC (aC (bZ 2 A (aP A (bC A Tryz.underlying56 A (aG 0 A)) ?_)))
 refine bQ A A A A A A (fun h10=>?_) (fun h10=>?_)
 refine bR (aR A (bY (fM (aC (bZ 2 A (aP A (dF 1 A A A A (aG 0 A) (by omega) (by first|omega|(simp only[List.length_set];omega))) ?_))))))
 refine aP A (bG (u:=.bool (((mkD n ((List.replicate n.cnt.toNat bl0).set (node.toNat) { (List.replicate n.cnt.toNat bl0).getD (node.toNat) bl0 with b:=true }) n.gs.length).getD k bl0).b)) A A A (aG 0 A) (dG blC (fun r=>.bool r.b) (fun _=>A) (mkD n ((List.replicate n.cnt.toNat bl0).set (node.toNat) { (List.replicate n.cnt.toNat bl0).getD (node.toNat) bl0 with b:=true }) n.gs.length) bl0 (show k<_ by first|omega|(simp only[List.length_set];omega)))) (bW (fun h11=>?_) (fun h11=>?_))
 have hmk:=h11
 refine bR (aR A (bZ 2 A ?_))
 refine dP A (bB (z:=jI 0) (s:=1) (cs:=(mI [(k:Int)])) A Tryz.underlying26 A (by decide) A (by kernel_rfl) A) ?_
 intro g12
 refine cW (i:=3) (z:=jI 0) (bytes:=8) A A A A Tryz.underlying26 (by kernel_rfl) A A A A (aG 0 A) (cO _) (by first|omega|(simp;done)|(simp;omega)) (cH xs ([(k:Int)])) (dL xs ([(k:Int)])) (fun _=>A) ?_
 intro v13
 refine dJ 1 A (cK (bZ 1 A (aP A (dM A A A) (dJ 1 A ?_))))
 exact cI (k+1) v13 (xs++([(k:Int)])) ⟨by omega,by rw[hz];exact Dl hmk⟩ (by omega) (cT rfl) (eJ [1,0,0,0] rfl)
 have hmk:=h11
 refine bR (hH A (cK (bZ 1 A (aP A (dM A A A) (dJ 1 A ?_)))))
 exact cI (k+1) gu xs ⟨by omega,by rw[hz];exact Fm hmk⟩ (by omega) (cT rfl) (dS rfl)
 refine bR (aS A ?_)
 refine bM (dI ?_)
 refine aO (bF (bD 2 A ?_))
 exact aV (dX (post:=[rI9 3 gu xs]) A A (eJ [2] A) (by rw[hz,show k=n.cnt.toNat by omega];rfl))
theorem xC (x0:Int) (x1:Value) (h1:x1.oneCell'=true):Tryz.prog.built 28 [(0,.int .i64 x0),(1,x1)]=some #[.int .i64 x0,x1,.slice none 0 0,.slice none 0 0]:=by
  (cases x1<;>first|(exact absurd h1 Bool.false_ne_true)|kernel_rfl)
theorem iI (n:Nt) (w:World) (hr:RdsNt w n) (hn:NtOk n) :
   Calls Tryz.prog 71 #[.agg #[.int .i64 n.ins,n.sv,n.av,n.ov]] w (Ret w (fun u_ p_=>∃(ps:List HP) (m:Nt) (tv:Value),u_=.tuple #[m.agg,tv]∧p_=[rS9 46 3 m.sv m.ss sqC,rI9 3 tv (evs2 n.fst.toNat),bigE ps]∧(∀w,(bigE ps).holds w→RdsSqs w m.ss)∧m.sv.oneCell'=true∧(m.av=.slice none 0 0∧m.ov=.slice none 0 0∧m.gs=[]∧m.os=[])∧Skel n m∧NtOk m)):=by
 have hi0:=hn.i0
 have hi1:=hn.i1
 have hs1:=hn.s1
 have ha1:=hn.a1
 have ho1:=hn.o1
 have hcnt:n.cnt=1+n.ins+n.ss.length+n.gs.length:=rfl
 have hfst:n.fst=1+n.ins+n.ss.length:=rfl
 refine bN (N:=48) (args:=[.agg #[jI n.ins,n.sv,n.av,n.ov]]) Tryz.func71 A A (cF ?_)
 refine cR A (cN A A) ?_
 intro b1
 refine cR A (bP (z:=.agg #[jI 0,.slice none 0 0,.slice none 0 0,.slice none 0 0]) A A) ?_
 intro b2
 refine aU 1 A (aC ?_)
 refine eV A 7 [0,1,2,3,4,5,6] (List.take 7 _) (List.drop 7 _) [[],[0],[],[2],[3],[1,4],[]] [8,9,10,11,12,13,4] (fun i_ vs_ v_ p_=>match i_ with|0=>v_=.pointer (some ⟨b1,0+0,none⟩)∧p_=[]|1=>v_=jI n.ins∧p_=[]|2=>v_=.pointer (some ⟨b1,0+1,none⟩)∧p_=[]|3=>v_=n.sv∧p_=[]|4=>(fun u_ p_=>∃(ps:List HP) (zs:List Sq),p_=[rS9 46 3 u_ zs sqC,bigE ps]∧(∀w,(bigE ps).holds w→RdsSqs w zs)∧zs.map sqv=n.ss.map sqv) v_ p_|5=>v_=.agg #[jI n.ins,(gV9 vs_ 1),.slice none 0 0,.slice none 0 0]∧p_=[]|6=>IsBox #[jI 0,.slice none 0 0,.slice none 0 0,.slice none 0 0] 28 v_ p_|_=>True) (List.take_append_drop 7 _).symm (by kernel_rfl) (by kernel_rfl) A A ?_ ?_
 refine⟨?_,?_,?_,?_,?_,?_,?_,trivial⟩
 intro vf pf hR
 exact fX A (aI [1] A) (aT (cQ 0 A A A))
 intro vf pf hR
 have e0:=hR 0 (by decide)
 exact eZ A (sk 8 (congrArg some e0.1) (aB _)) (aT (aN A A A (aH 1 A A)))
 intro vf pf hR
 exact fX A (aI [1] A) (aT (cQ 1 A A A))
 intro vf pf hR
 have e2:=hR 2 (by decide)
 exact eZ A (sk 10 (congrArg some e2.1) (aB _)) (aT (aN A A A (aH 1 A A)))
 intro vf pf hR
 have e3:=hR 3 (by decide)
 exact eZ A (sk 11 (congrArg some e3.1) (aB _)) (aJ A A (fun w hm=>lC n.ss _ w (hr.sq.below hm.bel) (fun s hs=>(hr.xs s hs).below hm.bel) (by have:=hn.s1;omega) (fun s hs=>(hn.sq s hs).len)))
 intro vf pf hR
 have e1:=hR 1 (by decide)
 have e4:(fun u_ p_=>∃(ps:List HP) (zs:List Sq),p_=[rS9 46 3 u_ zs sqC,bigE ps]∧(∀w,(bigE ps).holds w→RdsSqs w zs)∧zs.map sqv=n.ss.map sqv) (vf 4) (pf 4):=hR 4 (by decide)
 obtain⟨v3,vE4⟩:∃x,vf 4=x:=⟨_,rfl⟩
 obtain⟨p4,pE4⟩:∃x,pf 4=x:=⟨_,rfl⟩
 have R5:=e4
 rw[vE4,pE4] at R5
 obtain⟨ps,z0,rfl,hps,hz0⟩:=R5
 have hz0l:=tL hz0
 refine Or.inl ⟨A,?_⟩
 exact bU (sk 9 (congrArg some e1.1) (sk 12 (congrArg some vE4) (aB _))) (by simp only[pE4,vE4,e1.2,fS]<;>rfl) (cD (aT (kR (cs:=#[jI n.ins,v3,.slice none 0 0,.slice none 0 0]) A A (fun w hm=>xC n.ins v3 ((aG 0 A w hm).one)))) (fun _ _ h=>⟨h.1.trans (by show _=(.agg #[jI n.ins,(vf 4),.slice none 0 0,.slice none 0 0]:Value);first|(rw[vE4];done)|(rw[vE4];rfl)),h.2⟩))
 intro vf pf hR
 exact eZ A (aB _) (bP (z:=.agg #[jI 0,.slice none 0 0,.slice none 0 0,.slice none 0 0]) A A)
 intro vf pf hR
 have e4:(fun u_ p_=>∃(ps:List HP) (zs:List Sq),p_=[rS9 46 3 u_ zs sqC,bigE ps]∧(∀w,(bigE ps).holds w→RdsSqs w zs)∧zs.map sqv=n.ss.map sqv) (vf 4) (pf 4):=hR 4 (by decide)
 obtain⟨v3,vE4⟩:∃x,vf 4=x:=⟨_,rfl⟩
 obtain⟨p4,pE4⟩:∃x,pf 4=x:=⟨_,rfl⟩
 have R5:=e4
 rw[vE4,pE4] at R5
 obtain⟨ps,z0,rfl,hps,hz0⟩:=R5
 have hz0l:=tL hz0
 have e5:(vf 5)=.agg #[jI n.ins,(vf 4),.slice none 0 0,.slice none 0 0]∧(pf 5)=[]:=hR 5 (by decide)
 rw[vE4] at e5
 have e6:IsBox #[jI 0,.slice none 0 0,.slice none 0 0,.slice none 0 0] 28 (vf 6) (pf 6):=hR 6 (by decide)
 obtain⟨b6,vE6,pE6⟩:=e6
 have q0:=hR 0 (by decide)
 have q1:=hR 1 (by decide)
 have q2:=hR 2 (by decide)
 have q3:=hR 3 (by decide)
 have q5:=hR 5 (by decide)
 refine cE (bO [3,2,1,0] _ (sk 4 (congrArg some vE6) (sk 13 (congrArg some e5.1) (aB _))) A) (by simp only[pE4,vE4,pE6,vE6,q0.2,q1.2,q2.2,q3.2,q5.2,fS]<;>rfl) ?_
 simp only[List.drop_succ_cons,List.drop_zero]
 refine dZ (i:=0) A (fun ho7=>?_)
 refine bI (cs':=#[jI n.ins,v3,.slice none 0 0,.slice none 0 0]) (i:=2) (off:=0) (us:=[jI n.ins,v3,.slice none 0 0,.slice none 0 0]) A A A A A A A (aA A (aA ho7 (aA A (aA A bA)))) A A A (bR (cF ?_))
 refine dP A (dH (s:=1) A Tryz.underlying26 A) ?_
 intro g8
 refine aU 1 A (aC (bD 1 A (bE ?_)))
 refine gT (α:=Nat) (β:=Value) [0,1,2,3,4] A (fun k tv=>[rowE 3 1 tv ((evs2 k).length) (mI (evs2 k)),rS9 46 3 v3 z0 sqC,bigE ps,boxE b6 #[jI n.ins,v3,.slice none 0 0,.slice none 0 0] 28,eB9 b2,nB9 b1 n]) (fun k tv=>[(5,tv),(6,jI (k:Int))]) (fun k tv=>(k:Int)≤n.fst) (fun k tv=>n.fst.toNat-k) 0 _ (by omega) (cT A) (dS A) ?_
 intro k tv hi9
 have hk:=hi9
 have hek:=lS k
 refine aC (aC (bZ 1 A (aP A (aF (cs:=[jI n.ins,n.sv,n.av,n.ov]) A A A A A (aD 5 A 0 A)) ?_)))
 refine dA A (aJ A A (fun w hm=>aY (dD n w (hr.below hm.bel) hn))) (bQ A A A A A A (fun h10=>?_) (fun h10=>?_))
 refine bR (aR A (bY (fM (bZ 2 A (aP A (fO A A A (by constructor<;>omega)) ?_)))))
 refine dP A (bB (z:=jI 0) (s:=1) (cs:=(mI [2*(k:Int)])) A Tryz.underlying26 A (by decide) A (by kernel_rfl) A) ?_
 intro g11
 refine cW (i:=1) (z:=jI 0) (bytes:=8) A A A A Tryz.underlying26 (by kernel_rfl) A A A A (aG 0 A) (cO _) (by first|omega|(simp;done)|(simp;omega)) (cH (evs2 k) ([2*(k:Int)])) (dL (evs2 k) ([2*(k:Int)])) (fun _=>A) ?_
 intro v12
 refine dJ 1 A (cK (bZ 1 A (aP A (dM A A A) (dJ 1 A ?_))))
 exact oS (l':=[rowE 3 1 (.slice (some ⟨g11,0,none⟩) 1 1) 1 (mI [2*(k:Int)]),rowE 3 1 v12 ((evs2 (k+1)).length) (mI (evs2 (k+1))),rS9 46 3 v3 z0 sqC,bigE ps,boxE b6 #[jI n.ins,v3,.slice none 0 0,.slice none 0 0] 28,eB9 b2,nB9 b1 n]) (by rw[oV]) (cG (k+1) v12 (by omega) (by omega) (cT A) (eJ [1,0,0,0,0,0] A))
 refine bR (aS A ?_)
 refine bM (dI ?_)
 refine aO (bF (aC (bD 1 A (bE ?_))))
 refine iC (α:=Nat) (β:=List Sq) (γ:=List HP) [0,1,2,3,4,5,6,18] A (fun i9 zs ps2=>[rowE 3 1 tv ((evs2 k).length) (mI (evs2 k)),rS9 46 3 v3 zs sqC,bigE ps2,boxE b6 #[jI n.ins,v3,.slice none 0 0,.slice none 0 0] 28,eB9 b2,nB9 b1 n]) (fun i9 zs ps2=>[(7,jI (i9:Int))]) (fun i9 zs ps2=>i9≤z0.length∧SInv z0 i9 n.fst zs∧∀w,(bigE ps2).holds w→RdsSqs w zs) (fun i9 zs ps2=>z0.length-i9) 0 z0 _ ⟨Nat.zero_le _,SInv.start _ _,hps⟩ (cT A) (dS A) ?_
 intro i9 zs ps2 hi13
 obtain⟨hi9,hsi,hps2⟩:=hi13
 have hzl:=hsi.len
 refine aC (aC (bZ 1 A (aP A (cQ 1 A A A) (aP A (aN A A A (aH 3 A A)) (aP A (bC A Tryz.underlying24 A (aG 1 A)) ?_)))))
 refine bQ A A A A A A (fun h14=>?_) (fun h14=>?_)
 refine bR (aR A (bY (fM ?_)))
 have h4z:=hsi.x4 (sqv_x4 hz0 (fun s hs=>(hn.sq s hs).len)) (k:=i9) (by omega)
 refine eV A 13 [0,1,2,3,4,5,6,7,8,9,10,11,12] (List.take 13 _) (List.drop 13 _) [[],[0],[],[],[3],[],[4,5],[6],[7],[8],[9],[1,2],[11]] [33,34,35,36,37,38,39,40,41,42,43,44,45] (fun i_ vs_ v_ p_=>match i_ with|0=>v_=.pointer (some ⟨b6,0+1,none⟩)∧p_=[]|1=>v_=v3∧p_=[]|2=>v_=jI (i9:Int)∧p_=[]|3=>v_=.pointer (some ⟨b6,0+1,none⟩)∧p_=[]|4=>v_=v3∧p_=[]|5=>v_=jI (i9:Int)∧p_=[]|6=>v_=elP v3 ((i9:Int).toNat*3)∧p_=[]|7=>v_=elP v3 ((i9:Int).toNat*3+2)∧p_=[]|8=>v_=(zs.getD i9 sq0).iv∧p_=[]|9=>v_=jI (((zs.getD i9 sq0).xs).length:Int)∧p_=[]|10=>IsRow 3 1 ((List.replicate (((zs.getD i9 sq0).xs).length) (0:Int)).length) (mI (List.replicate (((zs.getD i9 sq0).xs).length) (0:Int))) v_ p_|11=>v_=elP v3 ((i9:Int).toNat*3)∧p_=[]|12=>v_=elP v3 ((i9:Int).toNat*3+2)∧p_=[]|_=>True) (List.take_append_drop 13 _).symm (by kernel_rfl) (by kernel_rfl) A A ?_ ?_
 refine⟨?_,?_,?_,?_,?_,?_,?_,?_,?_,?_,?_,?_,?_,trivial⟩
 intro vf pf hR
 exact fX A (aI [4] A) (aT (cQ 1 A A A))
 intro vf pf hR
 have e0:=hR 0 (by decide)
 exact eZ A (sk 33 (congrArg some e0.1) (aB _)) (aT (aN A A A (aH 3 A A)))
 intro vf pf hR
 exact fX A (aI [7] A) (aT (aK A))
 intro vf pf hR
 exact fX A (aI [4] A) (aT (cQ 1 A A A))
 intro vf pf hR
 have e3:=hR 3 (by decide)
 exact eZ A (sk 36 (congrArg some e3.1) (aB _)) (aT (aN A A A (aH 3 A A)))
 intro vf pf hR
 exact fX A (aI [7] A) (aT (aK A))
 intro vf pf hR
 have e4:=hR 4 (by decide)
 have e5:=hR 5 (by decide)
 exact eZ A (sk 37 (congrArg some e4.1) (sk 38 (congrArg some e5.1) (aB _))) (aT (dF 3 A A A A (aG 1 A)))
 intro vf pf hR
 have e6:=hR 6 (by decide)
 exact eZ A (sk 39 (congrArg some e6.1) (aB _)) (aT (cC (k0:=2) A A A (aG 1 A) (by omega)))
 intro vf pf hR
 have e7:=hR 7 (by decide)
 exact eZ A (sk 40 (congrArg some e7.1) (aB _)) (aT (bG (u:=(zs.getD i9 sq0).iv) A A A (aG 1 A) ((dE sqC 3 (fun _=>A) zs sq0 (show i9<_ by omega) (by decide)).trans A)))
 intro vf pf hR
 have e8:=hR 8 (by decide)
 exact eZ A (sk 41 (congrArg some e8.1) (aB _)) (aT (bC A Tryz.underlying26 A (fun w hm=>((hps2 w (hm.holds _ (bX (i:=2) A)))).at (k:=i9) (by omega))))
 intro vf pf hR
 have e9:=hR 9 (by decide)
 exact eZ A (sk 42 (congrArg some e9.1) (aB _)) (gN (z:=jI 0) (s:=1) (bytes:=8) (n:=(List.replicate (((zs.getD i9 sq0).xs).length) (0:Int)).length) (cs:=(mI (List.replicate (((zs.getD i9 sq0).xs).length) (0:Int)))) A Tryz.underlying26 A (by decide) A A (by first|(rw[List.length_replicate];done)|(rw[List.length_replicate];omega)) (by first|(rw[List.length_replicate];done)|(rw[List.length_replicate];omega)) (by rw[List.length_replicate];omega) (gY _))
 intro vf pf hR
 have e1:=hR 1 (by decide)
 have e2:=hR 2 (by decide)
 exact eZ A (sk 34 (congrArg some e1.1) (sk 35 (congrArg some e2.1) (aB _))) (aT (dF 3 A A A A (aG 1 A)))
 intro vf pf hR
 have e11:=hR 11 (by decide)
 exact eZ A (sk 44 (congrArg some e11.1) (aB _)) (aT (cC (k0:=2) A A A (aG 1 A) (by omega)))
 intro vf pf hR
 have e10:IsRow 3 1 ((List.replicate (((zs.getD i9 sq0).xs).length) (0:Int)).length) (mI (List.replicate (((zs.getD i9 sq0).xs).length) (0:Int))) (vf 10) (pf 10):=hR 10 (by decide)
 obtain⟨g15,vE10,pE10⟩:=e10
 have e12:=hR 12 (by decide)
 have q0:=hR 0 (by decide)
 have q1:=hR 1 (by decide)
 have q2:=hR 2 (by decide)
 have q3:=hR 3 (by decide)
 have q4:=hR 4 (by decide)
 have q5:=hR 5 (by decide)
 have q6:=hR 6 (by decide)
 have q7:=hR 7 (by decide)
 have q8:=hR 8 (by decide)
 have q9:=hR 9 (by decide)
 have q11:=hR 11 (by decide)
 have q12:=hR 12 (by decide)
 refine cE (bO [30,18,7,6,5,4,3,2,1,0] _ (sk 43 (congrArg some vE10) (sk 45 (congrArg some e12.1) (aB _))) A) (by simp only[pE10,vE10,q0.2,q1.2,q2.2,q3.2,q4.2,q5.2,q6.2,q7.2,q8.2,q9.2,q11.2,q12.2,fS]<;>rfl) ?_
 simp only[List.drop_succ_cons,List.drop_zero]
 refine eN (i:=2) (n':=(zs.set i9 (Sq.mk (zs.getD i9 sq0).kd (zs.getD i9 sq0).it (.slice (some ⟨g15,0,none⟩) ((List.replicate (((zs.getD i9 sq0).xs).length) (0:Int)).length) ((List.replicate (((zs.getD i9 sq0).xs).length) (0:Int)).length)) (List.replicate (((zs.getD i9 sq0).xs).length) (0:Int)))).length) (xs':=((zs.set i9 (Sq.mk (zs.getD i9 sq0).kd (zs.getD i9 sq0).it (.slice (some ⟨g15,0,none⟩) ((List.replicate (((zs.getD i9 sq0).xs).length) (0:Int)).length) ((List.replicate (((zs.getD i9 sq0).xs).length) (0:Int)).length)) (List.replicate (((zs.getD i9 sq0).xs).length) (0:Int)))).flatMap sqC)) A A A A A A A A (by first|omega|(simp only[List.length_set];omega)) List.length_set.symm (oB sqC 3 (fun _=>A) _ sq0 _ (by first|omega|(simp only[List.length_set];omega)) (by decide) A) A (dB (cK (bZ 1 A (aP A (dM A A A) (dJ 1 A ?_)))))
 refine aZ 7 [6,5,4,2,1,0,3] A A (by decide) ?_
 refine cB 2 A ?_
 refine aZ 6 [5,4,3,0,2,1] A A (by decide) ?_
 exact cI (i9+1) (zs.set i9 (Sq.mk (zs.getD i9 sq0).kd (zs.getD i9 sq0).it (.slice (some ⟨g15,0,none⟩) ((List.replicate (((zs.getD i9 sq0).xs).length) (0:Int)).length) ((List.replicate (((zs.getD i9 sq0).xs).length) (0:Int)).length)) (List.replicate (((zs.getD i9 sq0).xs).length) (0:Int)))) [bigE ps2,rowE 3 1 (.slice (some ⟨g15,0,none⟩) ((List.replicate (((zs.getD i9 sq0).xs).length) (0:Int)).length) ((List.replicate (((zs.getD i9 sq0).xs).length) (0:Int)).length)) ((List.replicate (((zs.getD i9 sq0).xs).length) (0:Int)).length) (mI (List.replicate (((zs.getD i9 sq0).xs).length) (0:Int)))] ⟨by omega,hsi.step (by omega) (by show(_,_,(List.replicate _ (0:Int)).length)=_;rw[List.length_replicate];rfl) (Aw (by omega)),fun w hw=>(hps2 w (aX hw cL)).set (bT (aX hw (dK cL)))⟩ (by omega) (cT A) (dS A)
 refine bR (aS A ?_)
 refine bM (dI ?_)
 refine aO (bF (cF (aP A (aF (cs:=[jI n.ins,v3,.slice none 0 0,.slice none 0 0]) A A A A A (aD 3 A 0 A)) (aM 1 A ?_))))
 refine bI (cs':=#[jI n.ins,v3,.slice none 0 0,.slice none 0 0]) (i:=4) (off:=0) (us:=[jI n.ins,v3,.slice none 0 0,.slice none 0 0]) A A A A A A A (aA A (aA ho7 (aA A (aA A bA)))) A A A (aU 1 A ?_)
 refine aV ?_
 have hkf:k=n.fst.toNat:=by omega
 subst hkf
 refine cY (fun w hm=>(aG 1 A w hm).one) (fun ho1=>?_)
 have hfin:=qI (n:=n) (m:=n) (sv:=v3) (av:=.slice none 0 0) (ov:=.slice none 0 0) (zs:=zs) (gs:=[]) (os:=[]) ⟨rfl,rfl⟩ hn (hsi.sk.trans (kQ hz0)) (fun k hk=>absurd hk (Nat.not_lt_zero _)) (by simp) (by have h9:=hsi.all (by omega);simpa using h9) (by simp) (by simp)
 refine aZ 6 [5,4,3,2,0,1] A A (by decide) ?_
 exact bV (rs:=[.cell 2 28,.tmp 3]) (vs:=[.agg #[jI n.ins,v3,.slice none 0 0,.slice none 0 0],tv]) (post:=[rS9 46 3 v3 zs sqC,rowE 3 1 tv ((evs2 n.fst.toNat).length) (mI (evs2 n.fst.toNat)),bigE ps2]) A ⟨⟨b2,0,[jI n.ins,v3,.slice none 0 0,.slice none 0 0],A,A,by kernel_rfl,by kernel_rfl,aD 4 A 0 A⟩,A,trivial⟩ A (eJ [0,0,0] A) ⟨_,(Nt.mk n.ins v3 (.slice none 0 0) (.slice none 0 0) zs [] []),_,A,A,hps2,ho1,⟨A,A,A,A⟩,hfin.2,hfin.1⟩
open Go.RowKit
theorem MapOk.two {tos:List Int}{c m:Int}(h:MapOk tos c m) {a b:Int}(ha:LtOk a c) (hb:LtOk b c):LtOk ((mpS tos [a,b]).getD 0 0) m∧LtOk ((mpS tos [a,b]).getD 1 0) m:=⟨(h.lit ha).2,(h.lit hb).2⟩
theorem vG {c a b:Int}(ha:LtOk a c) (hb:LtOk b c):∀x∈[a,b],LtOk x c:=fun x hx=>by
  rcases List.mem_cons.1 hx with rfl|hx
  · exact ha
  · rw[List.mem_singleton] at hx;subst hx;exact hb
theorem Co {n m:Nt}(h:Skel n m) {k:Nat}(hk:k<m.ss.length):(m.ss.getD k sq0).xs.length=(n.ss.getD k sq0).xs.length:=by
  have e:=uD (d:=sq0) h.ss (k:=k) (by rw[←h.len];exact hk)
  simp only[sqk,Prod.mk.injEq] at e
  exact e.2.2
theorem Cf (n:Nt) (w:World) (hr:RdsNt w n) (hn:NtOk n) :
   Calls Tryz.prog 88 #[.agg #[.int .i64 n.ins,n.sv,n.av,n.ov]] w (Ret w (fun u_ p_=>∃(ps:List HP) (m:Nt),u_=m.agg∧p_=[bigE ps]∧(∀w,(bigE ps).holds w→RdsNt w m)∧(m.sv.oneCell'=true∧m.av.oneCell'=true∧m.ov.oneCell'=true)∧NtOk m∧Skel n m∧m.gs.length≤n.gs.length)):=by
 have hi0:=hn.i0
 have hi1:=hn.i1
 have hs1:=hn.s1
 have ha1:=hn.a1
 have ho1:=hn.o1
 have hcnt:n.cnt=1+n.ins+n.ss.length+n.gs.length:=rfl
 have hfst:n.fst=1+n.ins+n.ss.length:=rfl
 refine bN (N:=101) (args:=[.agg #[jI n.ins,n.sv,n.av,n.ov]]) Tryz.func88 A A (cF ?_)
 refine cR A (cN A A) ?_
 intro b1
 refine cR A (bP (z:=.agg #[jI 0,.slice none 0 0,.slice none 0 0,.slice none 0 0]) A A) ?_
 intro b2
 refine bR (eP (aP A (aF (cs:=[jI n.ins,n.sv,n.av,n.ov]) A A A A A (aD 1 A 0 A)) ?_))
 refine dA A (aJ A A (fun w hm=>aY (eA n w (hr.below hm.bel) hn))) (aU 1 A (aS A (bY (cF (aP A (aF (cs:=[jI n.ins,n.sv,n.av,n.ov]) A A A A A (aD 1 A 0 A)) ?_)))))
 refine eB A A A (aJ A A (fun w hm=>xJ n w (hr.below hm.bel) hn)) ?_
 intro v3 p4 R5
 obtain⟨bs,rfl,hbl⟩:=R5
 refine aU 1 A (cF (aP A (aF (cs:=[jI n.ins,n.sv,n.av,n.ov]) A A A A A (aD 2 A 0 A)) ?_))
 refine eB A A A (aJ A A (fun w hm=>iI n w (hr.below hm.bel) hn)) ?_
 intro v6 p7 R8
 obtain⟨ps,m,tv,rfl,rfl,hps,o1m,⟨hav,hov,hgs0,hos0⟩,hsk,hmok⟩:=R8
 simp only[Nt.agg,hav,hov]
 have hskl:m.ss.length=n.ss.length:=hsk.len
 refine aM 3 A (cR A (bP (z:=.agg #[jI 0,.slice none 0 0,.slice none 0 0,.slice none 0 0]) A A) ?_)
 intro b9
 refine bI (cs':=#[jI m.ins,m.sv,.slice none 0 0,.slice none 0 0]) (i:=0) (off:=0) (us:=[jI m.ins,m.sv,.slice none 0 0,.slice none 0 0]) A A A A A A A (aA A (aA o1m (aA A (aA A bA)))) A A A (aU 1 A (cF (aP A (aF (cs:=[jI n.ins,n.sv,n.av,n.ov]) A A A A A (aD 6 A 0 A)) ?_)))
 refine dA A (aJ A A (fun w hm=>aY (dD n w (hr.below hm.bel) hn))) (aU 1 A (aC (bD 1 A (bE ?_))))
 refine fE [rowE 67 2 (.slice none 0 0) (([]:List An).length) (([]:List An).flatMap anC),boxE b9 #[jI m.ins,m.sv,.slice none 0 0,.slice none 0 0] 28,rS9 46 3 m.sv m.ss sqC,rowE 3 1 tv ((evs2 n.fst.toNat).length) (mI (evs2 n.fst.toNat)),bigE ps,rS9 4 1 v3 bs blC,eB9 b2,nB9 b1 n] (fun w hm=>hm.nilRow 67 2) ?_
 refine wM (α:=Nat) (β:=List Int) (γ:=List An) (δ:=Value×Value) (fun i tos gs q=>[rS9 67 2 q.2 gs anC,boxE b9 #[jI m.ins,m.sv,q.2,.slice none 0 0] 28,rS9 46 3 m.sv m.ss sqC,rI9 3 q.1 tos,bigE ps,rS9 4 1 v3 bs blC,eB9 b2,nB9 b1 n]) (fun i tos gs q=>[(0,.agg #[jI n.ins,n.sv,n.av,n.ov]),(1,pI b1),(2,pI b2),(3,v3),(4,pI b9),(5,q.1),(6,jI (n.fst+(gs.length:Int))),(7,jI (i:Int)),(12,.bool false)]) (fun i tos gs q=>i≤n.gs.length∧gs.length≤i∧AnsOk n.fst gs∧MapOk tos (n.fst+(i:Int)) (n.fst+(gs.length:Int))) (fun i tos gs q=>n.gs.length-i) 0 _ [] (_,_) ⟨by omega,by simp,fun k hk=>absurd hk (Nat.not_lt_zero _),by have h9:=mE (k:=n.fst.toNat) (m:=n.fst) (by omega);rw[Int.toNat_of_nonneg (by omega)] at h9;simpa using h9⟩ (bO [5,4,3,2,1,0] _ (sk 6 (congrArg (fun x=>some (Value.int .i64 x)) (by simp)) (aI [12,7] A)) A) (dS A) ?_
 intro i tos gs q hi10
 obtain⟨hi,hgi,hga,hmk⟩:=hi10
 have hmk1:=hmk.1
 refine aC (aC (bZ 1 A (aP A (cQ 2 A A A) (aP A (aN A A A (aH 7 A A)) (aP A (bC A Tryz.underlying25 A (aE hr.an)) ?_)))))
 refine bQ A A A A A A (fun h11=>?_) (fun h11=>?_)
 refine bR (aR A (bY (fM (eP ?_))))
 have hani:=hn.an i (by omega)
 have hia:LtOk (n.gs.getD i an0).a (n.fst+(i:Int)):=hani.1
 have hib:LtOk (n.gs.getD i an0).b (n.fst+(i:Int)):=hani.2
 have hx2:=hmk.two hia hib
 refine aM 1 A (aP A (aF (cs:=[jI n.ins,n.sv,n.av,n.ov]) A A A A A (aD 7 A 0 A)) ?_)
 refine dA A (aJ A A (fun w hm=>aY (dD n w (hr.below hm.bel) hn))) (aM 1 A (aP A (dM A A A) (aP A (dF 1 A A A A (aG 5 A)) ?_)))
 refine aP A (bG (u:=.bool ((bs.getD ((n.fst+(i:Int)).toNat) bl0).b)) A A A (aG 5 A) (dG blC (fun r=>.bool r.b) (fun _=>A) bs bl0 (show(n.fst+(i:Int)).toNat<_ by omega))) (bW (fun h12=>?_) (fun h12=>?_))
 refine aU 1 A (aS A (bY (aC ?_)))
 refine eV A 15 [0,1,2,3,4,5,6,7,8,9,10,11,12,13,14] (List.take 15 _) (List.drop 15 _) [[],[],[1],[],[2,3],[4],[5],[],[7],[],[8,9],[10],[11],[6,12],[0,13]] [41,42,43,44,45,46,47,48,49,50,51,52,53,54,55] (fun i_ vs_ v_ p_=>match i_ with|0=>v_=q.1∧p_=[]|1=>v_=.pointer (some ⟨b1,0+2,none⟩)∧p_=[]|2=>v_=n.av∧p_=[]|3=>v_=jI (i:Int)∧p_=[]|4=>v_=elP n.av ((i:Int).toNat*2)∧p_=[]|5=>v_=elP n.av ((i:Int).toNat*2+0)∧p_=[]|6=>v_=jI ((n.gs.getD i an0).a)∧p_=[]|7=>v_=.pointer (some ⟨b1,0+2,none⟩)∧p_=[]|8=>v_=n.av∧p_=[]|9=>v_=jI (i:Int)∧p_=[]|10=>v_=elP n.av ((i:Int).toNat*2)∧p_=[]|11=>v_=elP n.av ((i:Int).toNat*2+1)∧p_=[]|12=>v_=jI ((n.gs.getD i an0).b)∧p_=[]|13=>IsRow 3 1 2 (mI [(n.gs.getD i an0).a,(n.gs.getD i an0).b]) v_ p_|14=>(fun v' post=>post=[rI9 3 v' ((mpS tos ([(n.gs.getD i an0).a,(n.gs.getD i an0).b])))]) v_ p_|_=>True) (List.take_append_drop 15 _).symm (by kernel_rfl) (by kernel_rfl) A A ?_ ?_
 refine⟨?_,?_,?_,?_,?_,?_,?_,?_,?_,?_,?_,?_,?_,?_,?_,trivial⟩
 intro vf pf hR
 exact fX A (aI [5] A) (aT (aK A))
 intro vf pf hR
 exact fX A (aI [1] A) (aT (cQ 2 A A A))
 intro vf pf hR
 have e1:=hR 1 (by decide)
 exact eZ A (sk 42 (congrArg some e1.1) (aB _)) (aT (aN A A A (aH 7 A A)))
 intro vf pf hR
 exact fX A (aI [7] A) (aT (aK A))
 intro vf pf hR
 have e2:=hR 2 (by decide)
 have e3:=hR 3 (by decide)
 exact eZ A (sk 43 (congrArg some e2.1) (sk 44 (congrArg some e3.1) (aB _))) (aT (dF 2 A A A A (aE hr.an)))
 intro vf pf hR
 have e4:=hR 4 (by decide)
 exact eZ A (sk 45 (congrArg some e4.1) (aB _)) (aT (cC (k0:=0) A A A (aE hr.an) (by omega)))
 intro vf pf hR
 have e5:=hR 5 (by decide)
 exact eZ A (sk 46 (congrArg some e5.1) (aB _)) (aT (bG (u:=jI ((n.gs.getD i an0).a)) A A A (aE hr.an) ((dE anC 2 (fun _=>A) n.gs an0 (show i<_ by omega) (by decide)).trans A)))
 intro vf pf hR
 exact fX A (aI [1] A) (aT (cQ 2 A A A))
 intro vf pf hR
 have e7:=hR 7 (by decide)
 exact eZ A (sk 48 (congrArg some e7.1) (aB _)) (aT (aN A A A (aH 7 A A)))
 intro vf pf hR
 exact fX A (aI [7] A) (aT (aK A))
 intro vf pf hR
 have e8:=hR 8 (by decide)
 have e9:=hR 9 (by decide)
 exact eZ A (sk 49 (congrArg some e8.1) (sk 50 (congrArg some e9.1) (aB _))) (aT (dF 2 A A A A (aE hr.an)))
 intro vf pf hR
 have e10:=hR 10 (by decide)
 exact eZ A (sk 51 (congrArg some e10.1) (aB _)) (aT (cC (k0:=1) A A A (aE hr.an) (by omega)))
 intro vf pf hR
 have e11:=hR 11 (by decide)
 exact eZ A (sk 52 (congrArg some e11.1) (aB _)) (aT (bG (u:=jI ((n.gs.getD i an0).b)) A A A (aE hr.an) ((dE anC 2 (fun _=>A) n.gs an0 (show i<_ by omega) (by decide)).trans A)))
 intro vf pf hR
 have e6:=hR 6 (by decide)
 have e12:=hR 12 (by decide)
 exact eZ A (sk 47 (congrArg some e6.1) (sk 53 (congrArg some e12.1) (aB _))) (bB (z:=jI 0) (s:=1) (cs:=(mI [(n.gs.getD i an0).a,(n.gs.getD i an0).b])) A Tryz.underlying26 A (by decide) A (by kernel_rfl) A)
 intro vf pf hR
 have e0:=hR 0 (by decide)
 have e13:IsRow 3 1 2 (mI [(n.gs.getD i an0).a,(n.gs.getD i an0).b]) (vf 13) (pf 13):=hR 13 (by decide)
 obtain⟨g13,vE13,pE13⟩:=e13
 refine Or.inl ⟨A,?_⟩
 exact bU (sk 41 (congrArg some e0.1) (sk 54 (congrArg some vE13) (aB _))) (by simp only[pE13,vE13,e0.2,fS]<;>rfl) (aJ A A (fun w hm=>gU tos ([(n.gs.getD i an0).a,(n.gs.getD i an0).b]) _ _ _ _ w ((aG 4 A) w hm) ((aG 0 A) w hm) hmk (by omega) (by omega) (vG hia hib) (by simp)))
 intro vf pf hR
 have e13:IsRow 3 1 2 (mI [(n.gs.getD i an0).a,(n.gs.getD i an0).b]) (vf 13) (pf 13):=hR 13 (by decide)
 obtain⟨g13,vE13,pE13⟩:=e13
 have e14:(fun v' post=>post=[rI9 3 v' ((mpS tos ([(n.gs.getD i an0).a,(n.gs.getD i an0).b])))]) (vf 14) (pf 14):=hR 14 (by decide)
 obtain⟨v14,vE14⟩:∃x,vf 14=x:=⟨_,rfl⟩
 obtain⟨p15,pE14⟩:∃x,pf 14=x:=⟨_,rfl⟩
 have R16:=e14
 rw[vE14,pE14] at R16
 subst R16
 have q0:=hR 0 (by decide)
 have q1:=hR 1 (by decide)
 have q2:=hR 2 (by decide)
 have q3:=hR 3 (by decide)
 have q4:=hR 4 (by decide)
 have q5:=hR 5 (by decide)
 have q6:=hR 6 (by decide)
 have q7:=hR 7 (by decide)
 have q8:=hR 8 (by decide)
 have q9:=hR 9 (by decide)
 have q10:=hR 10 (by decide)
 have q11:=hR 11 (by decide)
 have q12:=hR 12 (by decide)
 refine cE (bO [37,27,12,7,6,5,4,3,2,1,0] _ (sk 55 (congrArg some vE14) (aB _)) A) (by simp only[pE13,vE13,pE14,vE14,q0.2,q1.2,q2.2,q3.2,q4.2,q5.2,q6.2,q7.2,q8.2,q9.2,q10.2,q11.2,q12.2,fS]<;>rfl) ?_
 simp only[List.drop_succ_cons,List.drop_zero]
 refine aU 1 A (aC ?_)
 have hmpl:=kV tos [(n.gs.getD i an0).a,(n.gs.getD i an0).b]
 simp only[List.length_cons,List.length_nil] at hmpl
 refine eV A 10 [0,1,2,3,4,5,6,7,8,9] (List.take 10 _) (List.drop 10 _) [[],[0],[],[2],[3],[],[5],[6],[4,7],[8]] [56,57,58,59,60,61,62,63,64,65] (fun i_ vs_ v_ p_=>match i_ with|0=>v_=.pointer (some ⟨b9,0+2,none⟩)∧p_=[]|1=>v_=q.2∧p_=[]|2=>v_=v14∧p_=[]|3=>v_=elP v14 ((0:Int).toNat*1)∧p_=[]|4=>v_=jI ((mpS tos ([(n.gs.getD i an0).a,(n.gs.getD i an0).b])).getD 0 0)∧p_=[]|5=>v_=v14∧p_=[]|6=>v_=elP v14 ((1:Int).toNat*1)∧p_=[]|7=>v_=jI ((mpS tos ([(n.gs.getD i an0).a,(n.gs.getD i an0).b])).getD 1 0)∧p_=[]|8=>v_=.agg #[jI ((mpS tos ([(n.gs.getD i an0).a,(n.gs.getD i an0).b])).getD 0 0),jI ((mpS tos ([(n.gs.getD i an0).a,(n.gs.getD i an0).b])).getD 1 0)]∧p_=[]|9=>IsRow 67 2 1 ([(mpS tos ([(n.gs.getD i an0).a,(n.gs.getD i an0).b])).getD 0 0,(mpS tos ([(n.gs.getD i an0).a,(n.gs.getD i an0).b])).getD 1 0].map (Value.int .i64)) v_ p_|_=>True) (List.take_append_drop 10 _).symm (by kernel_rfl) (by kernel_rfl) A A ?_ ?_
 refine⟨?_,?_,?_,?_,?_,?_,?_,?_,?_,?_,trivial⟩
 intro vf pf hR
 exact fX A (aI [4] A) (aT (cQ 2 A A A))
 intro vf pf hR
 have e0:=hR 0 (by decide)
 exact eZ A (sk 56 (congrArg some e0.1) (aB _)) (aT (aN A A A (aH 3 A A)))
 intro vf pf hR
 exact fX A (aI [8] A) (aT (aK A))
 intro vf pf hR
 have e2:=hR 2 (by decide)
 exact eZ A (sk 58 (congrArg some e2.1) (aB _)) (aT (dF 1 A A A A (aG 1 A)))
 intro vf pf hR
 have e3:=hR 3 (by decide)
 exact eZ A (sk 59 (congrArg some e3.1) (aB _)) (aT (bG (u:=jI ((mpS tos ([(n.gs.getD i an0).a,(n.gs.getD i an0).b])).getD 0 0)) A A A (aG 1 A) (eS (show _<(mpS tos ([(n.gs.getD i an0).a,(n.gs.getD i an0).b])).length by omega))))
 intro vf pf hR
 exact fX A (aI [8] A) (aT (aK A))
 intro vf pf hR
 have e5:=hR 5 (by decide)
 exact eZ A (sk 61 (congrArg some e5.1) (aB _)) (aT (dF 1 A A A A (aG 1 A)))
 intro vf pf hR
 have e6:=hR 6 (by decide)
 exact eZ A (sk 62 (congrArg some e6.1) (aB _)) (aT (bG (u:=jI ((mpS tos ([(n.gs.getD i an0).a,(n.gs.getD i an0).b])).getD 1 0)) A A A (aG 1 A) (eS (show _<(mpS tos ([(n.gs.getD i an0).a,(n.gs.getD i an0).b])).length by omega))))
 intro vf pf hR
 have e4:=hR 4 (by decide)
 have e7:=hR 7 (by decide)
 exact fX A (sk 60 (congrArg some e4.1) (sk 63 (congrArg some e7.1) (aB _))) (aT (dQ (cs:=#[jI ((mpS tos ([(n.gs.getD i an0).a,(n.gs.getD i an0).b])).getD 0 0),jI ((mpS tos ([(n.gs.getD i an0).a,(n.gs.getD i an0).b])).getD 1 0)]) A A A))
 intro vf pf hR
 have e8:=hR 8 (by decide)
 exact eZ A (sk 64 (congrArg some e8.1) (aB _)) (bB (z:=.agg #[jI 0,jI 0]) (s:=2) (cs:=([(mpS tos ([(n.gs.getD i an0).a,(n.gs.getD i an0).b])).getD 0 0,(mpS tos ([(n.gs.getD i an0).a,(n.gs.getD i an0).b])).getD 1 0].map (Value.int .i64))) A Tryz.underlying25 A (by decide) A (by kernel_rfl) A)
 intro vf pf hR
 have e1:=hR 1 (by decide)
 have e9:IsRow 67 2 1 ([(mpS tos ([(n.gs.getD i an0).a,(n.gs.getD i an0).b])).getD 0 0,(mpS tos ([(n.gs.getD i an0).a,(n.gs.getD i an0).b])).getD 1 0].map (Value.int .i64)) (vf 9) (pf 9):=hR 9 (by decide)
 obtain⟨g17,vE9,pE9⟩:=e9
 have q0:=hR 0 (by decide)
 have q1:=hR 1 (by decide)
 have q2:=hR 2 (by decide)
 have q3:=hR 3 (by decide)
 have q4:=hR 4 (by decide)
 have q5:=hR 5 (by decide)
 have q6:=hR 6 (by decide)
 have q7:=hR 7 (by decide)
 have q8:=hR 8 (by decide)
 refine cE (bO [37,27,12,8,7,6,5,4,3,2,1,0] _ (sk 57 (congrArg some e1.1) (sk 65 (congrArg some vE9) (aB _))) A) (by simp only[pE9,vE9,q0.2,q1.2,q2.2,q3.2,q4.2,q5.2,q6.2,q7.2,q8.2,fS]<;>rfl) ?_
 simp only[List.drop_succ_cons,List.drop_zero]
 refine cW (i:=3) (z:=.agg #[jI 0,jI 0]) (bytes:=16) A A A A Tryz.underlying25 (by kernel_rfl) A A A A (aG 0 A) (cO _) (by first|omega|(simp only[List.length_append,List.length_cons,List.length_nil];omega)) (cH gs [(An.mk ((mpS tos [(n.gs.getD i an0).a,(n.gs.getD i an0).b]).getD 0 0) ((mpS tos [(n.gs.getD i an0).a,(n.gs.getD i an0).b]).getD 1 0))]) (dY anC gs (An.mk ((mpS tos [(n.gs.getD i an0).a,(n.gs.getD i an0).b]).getD 0 0) ((mpS tos [(n.gs.getD i an0).a,(n.gs.getD i an0).b]).getD 1 0)) _ A) (fun _=>A) ?_
 intro v18
 refine aP A (cQ 2 A A A) (dZ (i:=3) A (fun ho19=>?_))
 refine fI (i:=4) (cs':=#[jI m.ins,m.sv,v18,.slice none 0 0]) A A A A A A ho19 A A A A (bR (aC (bZ 2 A (aP A (fO A A A (by constructor<;>omega)) ?_))))
 refine dP A (bB (z:=jI 0) (s:=1) (cs:=(mI [2*(n.fst+(gs.length:Int))])) A Tryz.underlying26 A (by decide) A (by kernel_rfl) A) ?_
 intro g20
 refine cW (i:=7) (z:=jI 0) (bytes:=8) A A A A Tryz.underlying26 (by kernel_rfl) A A A A (aG 0 A) (cO _) (by first|omega|(simp;done)|(simp;omega)) (cH tos ([2*(n.fst+(gs.length:Int))])) (dL tos ([2*(n.fst+(gs.length:Int))])) (fun _=>A) ?_
 intro v21
 refine aU 1 A (bZ 1 A (aP A (dM A A A) (dJ 1 A (cK (bZ 1 A ?_)))))
 refine aP A (dM A A A) (dJ 1 A ?_)
 have hgl9:(gs++[(An.mk ((mpS tos [(n.gs.getD i an0).a,(n.gs.getD i an0).b]).getD 0 0) ((mpS tos [(n.gs.getD i an0).a,(n.gs.getD i an0).b]).getD 1 0))]).length=gs.length+1:=by rw[List.length_append,List.length_singleton]
 have hga2:AnsOk n.fst (gs++[(An.mk ((mpS tos [(n.gs.getD i an0).a,(n.gs.getD i an0).b]).getD 0 0) ((mpS tos [(n.gs.getD i an0).a,(n.gs.getD i an0).b]).getD 1 0))]):=Ar hga hx2.1 hx2.2
 have hmk2:MapOk (tos++([2*(n.fst+(gs.length:Int))])) (n.fst+((i+1:Nat):Int)) (n.fst+((gs++[(An.mk ((mpS tos [(n.gs.getD i an0).a,(n.gs.getD i an0).b]).getD 0 0) ((mpS tos [(n.gs.getD i an0).a,(n.gs.getD i an0).b]).getD 1 0))]).length:Int)):=by have h9:=(hmk.up (m':=n.fst+((gs++[(An.mk ((mpS tos [(n.gs.getD i an0).a,(n.gs.getD i an0).b]).getD 0 0) ((mpS tos [(n.gs.getD i an0).a,(n.gs.getD i an0).b]).getD 1 0))]).length:Int)) (by omega)).app (x:=2*(n.fst+(gs.length:Int))) (by unfold LtOk;omega);rwa [show n.fst+(i:Int)+1=n.fst+((i+1:Nat):Int) by omega] at h9
 exact eD (i+1) (tos++([2*(n.fst+(gs.length:Int))])) (gs++[(An.mk ((mpS tos [(n.gs.getD i an0).a,(n.gs.getD i an0).b]).getD 0 0) ((mpS tos [(n.gs.getD i an0).a,(n.gs.getD i an0).b]).getD 1 0))]) (v21,v18) ⟨by omega,by omega,hga2,hmk2⟩ (by omega) (bO [5,4,3,2,1,0] _ (sk 6 (congrArg (fun x=>some (Value.int .i64 x)) (by first|rfl|(rw[List.length_append,List.length_singleton];omega))) (aI [12,7] A)) A) (eJ [4,0,0,0,0,0,0,0] A)
 refine aU 1 A (aR A (aC (bZ 1 A ?_)))
 refine dP A (bB (z:=jI 0) (s:=1) (cs:=(mI [0])) A Tryz.underlying26 A (by decide) A (by kernel_rfl) A) ?_
 intro g22
 refine cW (i:=4) (z:=jI 0) (bytes:=8) A A A A Tryz.underlying26 (by kernel_rfl) A A A A (aG 0 A) (cO _) (by first|omega|(simp;done)|(simp;omega)) (cH tos ([0])) (dL tos ([0])) (fun _=>A) ?_
 intro v23
 refine aU 1 A ?_
 refine bM (gF ?_)
 refine aO (bF (bZ 1 A (aP A (dM A A A) (dJ 1 A ?_))))
 have hmk2:MapOk (tos++[0]) (n.fst+((i+1:Nat):Int)) (n.fst+(gs.length:Int)):=by have h9:=hmk.app (x:=0) (by unfold LtOk;omega);rwa [show n.fst+(i:Int)+1=n.fst+((i+1:Nat):Int) by omega] at h9
 exact eD (i+1) (tos++([0])) gs (v23,q.2) ⟨by omega,by omega,hga,hmk2⟩ (by omega) (bO [5,4,3,2,1,0] _ (sk 6 (congrArg (fun x=>some (Value.int .i64 x)) (by first|rfl|(rw[List.length_append,List.length_singleton];omega))) (aI [12,7] A)) A) (eJ [1,0,0,0,0,0,0,0] A)
 refine bR (aS A ?_)
 refine bM (dI ?_)
 refine aO (bF (eP ?_))
 have hmkF:MapOk tos n.cnt (n.fst+(gs.length:Int)):=by have h9:=hmk;rwa [show n.fst+(i:Int)=n.cnt by omega] at h9
 refine aU 1 A (bE ?_)
 refine qZ (α:=Nat) (β:=List Sq) (γ:=List HP) (fun i9 zs ps2=>[rS9 67 2 q.2 gs anC,boxE b9 #[jI m.ins,m.sv,q.2,.slice none 0 0] 28,rS9 46 3 m.sv zs sqC,rI9 3 q.1 tos,bigE ps2,rS9 4 1 v3 bs blC,eB9 b2,nB9 b1 n]) (fun i9 zs ps2=>[(0,.agg #[jI n.ins,n.sv,n.av,n.ov]),(1,pI b1),(2,pI b2),(3,v3),(4,pI b9),(5,q.1),(6,jI (n.fst+(gs.length:Int))),(7,jI (i:Int)),(9,jI (i9:Int)),(12,.bool false),(27,.bool false)]) (fun i9 zs ps2=>i9≤m.ss.length∧SInv m.ss i9 (n.fst+(gs.length:Int)) zs∧∀w,(bigE ps2).holds w→RdsSqs w zs) (fun i9 zs ps2=>m.ss.length-i9) 0 m.ss _ ⟨Nat.zero_le _,SInv.start _ _,hps⟩ (cT A) (dS A) ?_
 intro i9 zs ps2 hi24
 obtain⟨hi9,hsi,hps2⟩:=hi24
 have hzl:=hsi.len
 refine aC (aC (bZ 1 A (aP A (cQ 1 A A A) (aP A (aN A A A (aH 1 A A)) (aP A (bC A Tryz.underlying24 A (aG 2 A)) ?_)))))
 refine bQ A A A A A A (fun h25=>?_) (fun h25=>?_)
 refine bR (aR A (bY (fM ?_)))
 have hx49:=(hn.sq _ (bS (d:=sq0) (show i9<n.ss.length by have:=hsk.len;omega))).len
 have hsx:=(hsi.same (k:=i9) (by omega)).trans (Co hsk (k:=i9) (by omega))
 refine eV A 13 [0,1,2,3,4,5,6,7,8,9,10,11,12] (List.take 13 _) (List.drop 13 _) [[],[0],[],[],[],[4],[],[5,6],[7],[8],[3,9],[1,2],[11]] [82,83,84,85,86,87,88,89,90,91,92,93,94] (fun i_ vs_ v_ p_=>match i_ with|0=>v_=.pointer (some ⟨b9,0+1,none⟩)∧p_=[]|1=>v_=m.sv∧p_=[]|2=>v_=jI (i9:Int)∧p_=[]|3=>v_=q.1∧p_=[]|4=>v_=.pointer (some ⟨b1,0+1,none⟩)∧p_=[]|5=>v_=n.sv∧p_=[]|6=>v_=jI (i9:Int)∧p_=[]|7=>v_=elP n.sv ((i9:Int).toNat*3)∧p_=[]|8=>v_=elP n.sv ((i9:Int).toNat*3+2)∧p_=[]|9=>v_=(n.ss.getD i9 sq0).iv∧p_=[]|10=>(fun v' post=>post=[rI9 3 v' ((mpS tos ((n.ss.getD i9 sq0).xs)))]) v_ p_|11=>v_=elP m.sv ((i9:Int).toNat*3)∧p_=[]|12=>v_=elP m.sv ((i9:Int).toNat*3+2)∧p_=[]|_=>True) (List.take_append_drop 13 _).symm (by kernel_rfl) (by kernel_rfl) A A ?_ ?_
 refine⟨?_,?_,?_,?_,?_,?_,?_,?_,?_,?_,?_,?_,?_,trivial⟩
 intro vf pf hR
 exact fX A (aI [4] A) (aT (cQ 1 A A A))
 intro vf pf hR
 have e0:=hR 0 (by decide)
 exact eZ A (sk 82 (congrArg some e0.1) (aB _)) (aT (aN A A A (aH 1 A A)))
 intro vf pf hR
 exact fX A (aI [9] A) (aT (aK A))
 intro vf pf hR
 exact fX A (aI [5] A) (aT (aK A))
 intro vf pf hR
 exact fX A (aI [1] A) (aT (cQ 1 A A A))
 intro vf pf hR
 have e4:=hR 4 (by decide)
 exact eZ A (sk 86 (congrArg some e4.1) (aB _)) (aT (aN A A A (aH 7 A A)))
 intro vf pf hR
 exact fX A (aI [9] A) (aT (aK A))
 intro vf pf hR
 have e5:=hR 5 (by decide)
 have e6:=hR 6 (by decide)
 exact eZ A (sk 87 (congrArg some e5.1) (sk 88 (congrArg some e6.1) (aB _))) (aT (dF 3 A A A A (aE hr.sq)))
 intro vf pf hR
 have e7:=hR 7 (by decide)
 exact eZ A (sk 89 (congrArg some e7.1) (aB _)) (aT (cC (k0:=2) A A A (aE hr.sq) (by omega)))
 intro vf pf hR
 have e8:=hR 8 (by decide)
 exact eZ A (sk 90 (congrArg some e8.1) (aB _)) (aT (bG (u:=(n.ss.getD i9 sq0).iv) A A A (aE hr.sq) ((dE sqC 3 (fun _=>A) n.ss sq0 (show i9<_ by omega) (by decide)).trans A)))
 intro vf pf hR
 have e3:=hR 3 (by decide)
 have e9:=hR 9 (by decide)
 exact eZ A (sk 85 (congrArg some e3.1) (sk 91 (congrArg some e9.1) (aB _))) (aJ A A (fun w hm=>gU tos ((n.ss.getD i9 sq0).xs) _ _ _ _ w ((aG 3 A) w hm) ((aE (hr.at (k:=i9) (by omega))) w hm) hmkF (by omega) (by omega) (hn.xs _ (bS (d:=sq0) (by omega))) (by omega)))
 intro vf pf hR
 have e1:=hR 1 (by decide)
 have e2:=hR 2 (by decide)
 exact eZ A (sk 83 (congrArg some e1.1) (sk 84 (congrArg some e2.1) (aB _))) (aT (dF 3 A A A A (aG 2 A)))
 intro vf pf hR
 have e11:=hR 11 (by decide)
 exact eZ A (sk 93 (congrArg some e11.1) (aB _)) (aT (cC (k0:=2) A A A (aG 2 A) (by omega)))
 intro vf pf hR
 have e10:(fun v' post=>post=[rI9 3 v' ((mpS tos ((n.ss.getD i9 sq0).xs)))]) (vf 10) (pf 10):=hR 10 (by decide)
 obtain⟨v26,vE10⟩:∃x,vf 10=x:=⟨_,rfl⟩
 obtain⟨p27,pE10⟩:∃x,pf 10=x:=⟨_,rfl⟩
 have R28:=e10
 rw[vE10,pE10] at R28
 subst R28
 have e12:=hR 12 (by decide)
 have q0:=hR 0 (by decide)
 have q1:=hR 1 (by decide)
 have q2:=hR 2 (by decide)
 have q3:=hR 3 (by decide)
 have q4:=hR 4 (by decide)
 have q5:=hR 5 (by decide)
 have q6:=hR 6 (by decide)
 have q7:=hR 7 (by decide)
 have q8:=hR 8 (by decide)
 have q9:=hR 9 (by decide)
 have q11:=hR 11 (by decide)
 have q12:=hR 12 (by decide)
 refine cE (bO [79,27,12,9,7,6,5,4,3,2,1,0] _ (sk 92 (congrArg some vE10) (sk 94 (congrArg some e12.1) (aB _))) A) (by simp only[pE10,vE10,q0.2,q1.2,q2.2,q3.2,q4.2,q5.2,q6.2,q7.2,q8.2,q9.2,q11.2,q12.2,fS]<;>rfl) ?_
 simp only[List.drop_succ_cons,List.drop_zero]
 refine dZ (i:=0) A (fun ho29=>?_)
 refine eN (i:=3) (n':=(zs.set i9 (Sq.mk (zs.getD i9 sq0).kd (zs.getD i9 sq0).it v26 (mpS tos ((n.ss.getD i9 sq0).xs)))).length) (xs':=((zs.set i9 (Sq.mk (zs.getD i9 sq0).kd (zs.getD i9 sq0).it v26 (mpS tos ((n.ss.getD i9 sq0).xs)))).flatMap sqC)) A A A A A A ho29 A (by first|omega|(simp only[List.length_set];omega)) List.length_set.symm (oB sqC 3 (fun _=>A) _ sq0 _ (by first|omega|(simp only[List.length_set];omega)) (by decide) A) A (dB (cK (bZ 1 A (aP A (dM A A A) ?_))))
 have hmkF:MapOk tos n.cnt (n.fst+(gs.length:Int)):=by have h9:=hmk;rwa [show n.fst+(i:Int)=n.cnt by omega] at h9
 refine dJ 1 A ?_
 refine aZ 9 [8,7,6,4,3,2,1,0,5] A A (by decide) ?_
 refine cB 2 A ?_
 refine aZ 8 [7,6,5,0,4,3,2,1] A A (by decide) ?_
 exact cI (i9+1) (zs.set i9 (Sq.mk (zs.getD i9 sq0).kd (zs.getD i9 sq0).it v26 (mpS tos ((n.ss.getD i9 sq0).xs)))) [bigE ps2,rowE 3 1 v26 ((mpS tos ((n.ss.getD i9 sq0).xs)).length) (mI (mpS tos ((n.ss.getD i9 sq0).xs)))] ⟨by omega,hsi.step (by omega) (by show(_,_,(mpS _ _).length)=_;rw[kV,←hsx];rfl) (qR hmkF (hn.xs _ (bS (d:=sq0) (by omega)))),fun w hw=>(hps2 w (aX hw cL)).set (bT (aX hw (dK cL)))⟩ (by omega) (cT A) (dS A)
 refine bR (aS A ?_)
 refine bM (dI ?_)
 refine aO (bF (aC (bZ 1 A (aP A (cQ 3 A A A) (aP A (aN A A A (aH 7 A A)) ?_)))))
 refine eB A A A (aJ A A (fun w hm=>gU tos n.os _ _ _ _ w ((aG 3 A) w hm) ((aE hr.ou) w hm) hmkF (by omega) (by omega) hn.ou (by omega))) ?_
 intro v30 p31 R32
 subst R32
 refine aP A (cQ 3 A A A) (dZ (i:=0) A (fun ho33=>?_))
 refine fI (i:=2) (cs':=#[jI m.ins,m.sv,q.2,v30]) A A A A A A ho33 A A A A (bR (cF (aP A (aF (cs:=[jI m.ins,m.sv,q.2,v30]) A A A A A (aD 2 A 0 A)) ?_)))
 refine dZ (i:=1) A (fun ho34=>?_)
 refine bI (cs':=#[jI m.ins,m.sv,q.2,v30]) (i:=7) (off:=0) (us:=[jI m.ins,m.sv,q.2,v30]) A A A A A A A (aA A (aA o1m (aA ho34 (aA ho33 bA)))) A A A (bR ?_)
 refine aV (cY (fun w hm=>(aG 3 A w hm).one) (fun ho1=>?_))
 refine cY (fun w hm=>(aG 1 A w hm).one) (fun ho2=>?_)
 refine cY (fun w hm=>(aG 0 A w hm).one) (fun ho3=>?_)
 have hfin:=qI (n:=n) (sv:=m.sv) (av:=q.2) (ov:=v30) (zs:=zs) (gs:=gs) (os:=(mpS tos n.os)) hsk hmok hsi.sk hga (by omega) (hsi.all (by omega)) (qR hmkF hn.ou) (by rw[kV];omega)
 refine aZ 9 [7,0,1,5,3] A A (by decide) ?_
 refine cB 4 A ?_
 exact bV (rs:=[.cell 2 28]) (vs:=[.agg #[jI m.ins,m.sv,q.2,v30]]) (post:=[bigE [rS9 46 3 m.sv zs sqC,bigE ps2,rS9 67 2 q.2 gs anC,rowE 3 1 v30 ((mpS tos n.os).length) (mI (mpS tos n.os))]]) A ⟨⟨b2,0,[jI m.ins,m.sv,q.2,v30],A,A,by kernel_rfl,by kernel_rfl,aD 1 A 0 A⟩,trivial⟩ A (eJ [0] A) ⟨_,(Nt.mk m.ins m.sv q.2 v30 zs gs (mpS tos n.os)),A,A,fun w hw=>⟨bT (aX hw cL),hps2 w (aX hw (dK cL)),bT (aX hw (dK (dK cL))),bT (aX hw (dK (dK (dK cL))))⟩,⟨ho1,ho2,ho3⟩,hfin.1,hfin.2,(by show gs.length≤_;omega)⟩
theorem lO (n o:Nt) (tos:List Int) (tv:Value) (ps:List HP) (w0:World) (l:List HP) (w:World) (hm0:Mem w0 (rS9 46 3 o.sv o.ss sqC::rI9 3 tv tos::bigE ps::l) w) (hr:∀w,Mem w0 l w→RdsNt w n) (hnone:n.sv.oneCell'=true∧n.av.oneCell'=true∧n.ov.oneCell'=true) (hn:NtOk n) (ho:NtOk o) (hsk:Skel n o) (hmk:MapOk tos n.cnt o.cnt) (hps:∀w,(bigE ps).holds w→NtRest w o) (hone:o.sv.oneCell'=true∧o.av.oneCell'=true∧o.ov.oneCell'=true) :
   Calls Tryz.prog 74 #[.agg #[.int .i64 o.ins,o.sv,o.av,o.ov],.agg #[.int .i64 n.ins,n.sv,n.av,n.ov],tv] w (fun e_ w_=>∃v_ p_,e_=.returned v_∧(fun u_ p_=>∃(ps:List HP) (m:Nt),u_=m.agg∧p_=bigE ps∧(∀w,(bigE ps).holds w→RdsNt w m)∧(m.sv.oneCell'=true∧m.av.oneCell'=true∧m.ov.oneCell'=true)∧NtOk m∧Skel n m∧m.gs.length≤o.gs.length) v_ p_∧Mem w0 (p_::l) w_):=by
 have hi0:=hn.i0
 have hi1:=hn.i1
 have hs1:=hn.s1
 have ha1:=hn.a1
 have ho1:=hn.o1
 have hcnt:n.cnt=1+n.ins+n.ss.length+n.gs.length:=rfl
 have hfst:n.fst=1+n.ins+n.ss.length:=rfl
 obtain⟨hoc1,hoc2,hoc3,hoc4,hoc5,hoc6⟩:=Ao ho
 have hosl:=hsk.len
 have hmk1:=hmk.1
 refine fW (N:=35) (args:=[.agg #[jI o.ins,o.sv,o.av,o.ov],.agg #[jI n.ins,n.sv,n.av,n.ov],tv]) Tryz.func74 A A hm0 (cF ?_)
 refine cR A (cN A A) ?_
 intro b1
 refine cR A (cN A A) ?_
 intro b2
 refine cR A (bP (z:=.agg #[jI 0,.slice none 0 0,.slice none 0 0,.slice none 0 0]) A A) ?_
 intro b3
 refine bR (aC (bD 1 A (bE ?_)))
 refine iC (α:=Nat) (β:=List Sq) (γ:=List HP) [0,1,2,3,4,6] A (fun i9 zs ps2=>(eB9 b3::nB9 b2 n::nB9 b1 o::rS9 46 3 o.sv zs sqC::rI9 3 tv tos::bigE ps2::l)) (fun i9 zs ps2=>[(7,jI (i9:Int))]) (fun i9 zs ps2=>i9≤o.ss.length∧SInv o.ss i9 o.cnt zs∧∀w,(bigE ps2).holds w→RdsSqs w zs∧RdsW w o.av 2 o.gs.length (o.gs.flatMap anC)) (fun i9 zs ps2=>o.ss.length-i9) 0 o.ss _ ⟨Nat.zero_le _,SInv.start _ _,(fun w hw=>⟨(hps w hw).xs,(hps w hw).an⟩)⟩ (cT A) (.refl _) ?_
 intro i9 zs ps2 hi4
 obtain⟨hi9,hsi,hps2⟩:=hi4
 have hzl:=hsi.len
 refine aC (aC (bZ 1 A (aP A (cQ 1 A A A) (aP A (aN A A A (aH 2 A A)) (aP A (bC A Tryz.underlying24 A (aG 3 A)) ?_)))))
 refine bQ A A A A A A (fun h5=>?_) (fun h5=>?_)
 refine bR (aR A (bY (fM ?_)))
 have hx49:=(hn.sq _ (bS (d:=sq0) (show i9<n.ss.length by omega))).len
 have hsx:=(hsi.same (k:=i9) (by omega)).trans (Co hsk (k:=i9) (by omega))
 refine eV A 13 [0,1,2,3,4,5,6,7,8,9,10,11,12] (List.take 13 _) (List.drop 13 _) [[],[0],[],[],[],[4],[],[5,6],[7],[8],[3,9],[1,2],[11]] [15,16,17,18,19,20,21,22,23,24,25,26,27] (fun i_ vs_ v_ p_=>match i_ with|0=>v_=.pointer (some ⟨b1,0+1,none⟩)∧p_=[]|1=>v_=o.sv∧p_=[]|2=>v_=jI (i9:Int)∧p_=[]|3=>v_=tv∧p_=[]|4=>v_=.pointer (some ⟨b2,0+1,none⟩)∧p_=[]|5=>v_=n.sv∧p_=[]|6=>v_=jI (i9:Int)∧p_=[]|7=>v_=elP n.sv ((i9:Int).toNat*3)∧p_=[]|8=>v_=elP n.sv ((i9:Int).toNat*3+2)∧p_=[]|9=>v_=(n.ss.getD i9 sq0).iv∧p_=[]|10=>(fun v' post=>post=[rI9 3 v' ((mpS tos ((n.ss.getD i9 sq0).xs)))]) v_ p_|11=>v_=elP o.sv ((i9:Int).toNat*3)∧p_=[]|12=>v_=elP o.sv ((i9:Int).toNat*3+2)∧p_=[]|_=>True) (List.take_append_drop 13 _).symm (by kernel_rfl) (by kernel_rfl) A A ?_ ?_
 refine⟨?_,?_,?_,?_,?_,?_,?_,?_,?_,?_,?_,?_,?_,trivial⟩
 intro vf pf hR
 exact fX A (aI [3] A) (aT (cQ 1 A A A))
 intro vf pf hR
 have e0:=hR 0 (by decide)
 exact eZ A (sk 15 (congrArg some e0.1) (aB _)) (aT (aN A A A (aH 2 A A)))
 intro vf pf hR
 exact fX A (aI [7] A) (aT (aK A))
 intro vf pf hR
 exact fX A (aI [2] A) (aT (aK A))
 intro vf pf hR
 exact fX A (aI [4] A) (aT (cQ 1 A A A))
 intro vf pf hR
 have e4:=hR 4 (by decide)
 exact eZ A (sk 19 (congrArg some e4.1) (aB _)) (aT (aN A A A (aH 1 A A)))
 intro vf pf hR
 exact fX A (aI [7] A) (aT (aK A))
 intro vf pf hR
 have e5:=hR 5 (by decide)
 have e6:=hR 6 (by decide)
 exact eZ A (sk 20 (congrArg some e5.1) (sk 21 (congrArg some e6.1) (aB _))) (aT (dF 3 A A A A (fun w hm=>(hr w (hm.sub (kE 6 A))).sq)))
 intro vf pf hR
 have e7:=hR 7 (by decide)
 exact eZ A (sk 22 (congrArg some e7.1) (aB _)) (aT (cC (k0:=2) A A A (fun w hm=>(hr w (hm.sub (kE 6 A))).sq) (by omega)))
 intro vf pf hR
 have e8:=hR 8 (by decide)
 exact eZ A (sk 23 (congrArg some e8.1) (aB _)) (aT (bG (u:=(n.ss.getD i9 sq0).iv) A A A (fun w hm=>(hr w (hm.sub (kE 6 A))).sq) ((dE sqC 3 (fun _=>A) n.ss sq0 (show i9<_ by omega) (by decide)).trans A)))
 intro vf pf hR
 have e3:=hR 3 (by decide)
 have e9:=hR 9 (by decide)
 exact eZ A (sk 18 (congrArg some e3.1) (sk 24 (congrArg some e9.1) (aB _))) (aJ A A (fun w hm=>gU tos ((n.ss.getD i9 sq0).xs) _ _ _ _ w ((aG 4 A) w hm) ((fun w hm=>(hr w (hm.sub (kE 6 A))).at (k:=i9) (by omega)) w hm) hmk (by omega) (by omega) (hn.xs _ (bS (d:=sq0) (by omega))) (by omega)))
 intro vf pf hR
 have e1:=hR 1 (by decide)
 have e2:=hR 2 (by decide)
 exact eZ A (sk 16 (congrArg some e1.1) (sk 17 (congrArg some e2.1) (aB _))) (aT (dF 3 A A A A (aG 3 A)))
 intro vf pf hR
 have e11:=hR 11 (by decide)
 exact eZ A (sk 26 (congrArg some e11.1) (aB _)) (aT (cC (k0:=2) A A A (aG 3 A) (by omega)))
 intro vf pf hR
 have e10:(fun v' post=>post=[rI9 3 v' ((mpS tos ((n.ss.getD i9 sq0).xs)))]) (vf 10) (pf 10):=hR 10 (by decide)
 obtain⟨v6,vE10⟩:∃x,vf 10=x:=⟨_,rfl⟩
 obtain⟨p7,pE10⟩:∃x,pf 10=x:=⟨_,rfl⟩
 have R8:=e10
 rw[vE10,pE10] at R8
 subst R8
 have e12:=hR 12 (by decide)
 have q0:=hR 0 (by decide)
 have q1:=hR 1 (by decide)
 have q2:=hR 2 (by decide)
 have q3:=hR 3 (by decide)
 have q4:=hR 4 (by decide)
 have q5:=hR 5 (by decide)
 have q6:=hR 6 (by decide)
 have q7:=hR 7 (by decide)
 have q8:=hR 8 (by decide)
 have q9:=hR 9 (by decide)
 have q11:=hR 11 (by decide)
 have q12:=hR 12 (by decide)
 refine cE (bO [12,7,6,4,3,2,1,0] _ (sk 25 (congrArg some vE10) (sk 27 (congrArg some e12.1) (aB _))) A) (by simp only[pE10,vE10,q0.2,q1.2,q2.2,q3.2,q4.2,q5.2,q6.2,q7.2,q8.2,q9.2,q11.2,q12.2,fS]<;>rfl) ?_
 simp only[List.drop_succ_cons,List.drop_zero]
 refine dZ (i:=0) A (fun ho9=>?_)
 refine eN (i:=4) (n':=(zs.set i9 (Sq.mk (zs.getD i9 sq0).kd (zs.getD i9 sq0).it v6 (mpS tos ((n.ss.getD i9 sq0).xs)))).length) (xs':=((zs.set i9 (Sq.mk (zs.getD i9 sq0).kd (zs.getD i9 sq0).it v6 (mpS tos ((n.ss.getD i9 sq0).xs)))).flatMap sqC)) A A A A A A ho9 A (by first|omega|(simp only[List.length_set];omega)) List.length_set.symm (oB sqC 3 (fun _=>A) _ sq0 _ (by first|omega|(simp only[List.length_set];omega)) (by decide) A) A (dB (cK (bZ 1 A (aP A (dM A A A) (dJ 1 A ?_)))))
 refine aZ 7 [5,4,3,2,1,0,6] A A (by decide) ?_
 refine cB 2 A ?_
 refine aZ 6 [0,5,4,3,2,1] A A (by decide) ?_
 exact cI (i9+1) (zs.set i9 (Sq.mk (zs.getD i9 sq0).kd (zs.getD i9 sq0).it v6 (mpS tos ((n.ss.getD i9 sq0).xs)))) [bigE ps2,rowE 3 1 v6 ((mpS tos ((n.ss.getD i9 sq0).xs)).length) (mI (mpS tos ((n.ss.getD i9 sq0).xs)))] ⟨by omega,hsi.step (by omega) (by show(_,_,(mpS _ _).length)=_;rw[kV,←hsx];rfl) (qR hmk (hn.xs _ (bS (d:=sq0) (by omega)))),fun w hw=>⟨(hps2 w (aX hw cL)).1.set (bT (aX hw (dK cL))),(hps2 w (aX hw cL)).2⟩⟩ (by omega) (cT A) (.refl _)
 refine bR (aS A ?_)
 refine bM (dI ?_)
 refine aO (bF (aC (bZ 1 A (aP A (cQ 3 A A A) (aP A (aN A A A (aH 1 A A)) ?_)))))
 refine eB A A A (aJ A A (fun w hm=>gU tos n.os _ _ _ _ w ((aG 4 A) w hm) ((fun w hm=>(hr w (hm.sub (kE 6 A))).ou) w hm) hmk (by omega) (by omega) hn.ou (by omega))) ?_
 intro v10 p11 R12
 subst R12
 refine aP A (cQ 3 A A A) (dZ (i:=0) A (fun ho13=>?_))
 refine fI (i:=3) (cs':=#[jI o.ins,o.sv,o.av,v10]) A A A A A A ho13 A A A A (bR (cF (aP A (aF (cs:=[jI o.ins,o.sv,o.av,v10]) A A A A A (aD 3 A 0 A)) ?_)))
 have hfin:=qI (n:=n) (m:=o) (sv:=o.sv) (av:=o.av) (ov:=v10) (zs:=zs) (gs:=o.gs) (os:=(mpS tos n.os)) hsk ho hsi.sk (by have h9:=ho.an;rw[hsk.fst] at h9;exact h9) ho.a1 (by have h9:=hsi.all (by omega);rwa [show o.cnt=n.fst+(o.gs.length:Int) by rw[←hsk.fst];rfl] at h9) (by have h9:=qR hmk hn.ou;rwa [show o.cnt=n.fst+(o.gs.length:Int) by rw[←hsk.fst];rfl] at h9) (by rw[kV];omega)
 refine eB A A A (aJ A A (fun w hm=>Cf (Nt.mk o.ins o.sv o.av (v10) zs o.gs (mpS tos n.os)) w ⟨aG 4 A w hm,(hps2 w (hm.holds _ (bX (i:=6) A))).1,(hps2 w (hm.holds _ (bX (i:=6) A))).2,aG 0 A w hm⟩ hfin.1)) ?_
 intro v14 p15 R16
 obtain⟨qs,m,rfl,rfl,hqs,⟨o1m,o2m,o3m⟩,hmok,hsm,hml⟩:=R16
 refine bI (cs':=#[jI m.ins,m.sv,m.av,m.ov]) (i:=2) (off:=0) (us:=[jI m.ins,m.sv,m.av,m.ov]) A A A A A A A (aA A (aA o1m (aA o2m (aA o3m bA)))) A A A (bR ?_)
 exact aV (eG (rs:=[.cell 6 28]) (vs:=[.agg #[jI m.ins,m.sv,m.av,m.ov]]) A ⟨⟨b3,0,[jI m.ins,m.sv,m.av,m.ov],A,A,by kernel_rfl,by kernel_rfl,aD 2 A 0 A⟩,trivial⟩ A (fun w hm=>⟨_,bigE qs,A,⟨_,m,A,A,hqs,⟨o1m,o2m,o3m⟩,hmok,hfin.2.trans hsm,hml⟩,hm.sub (.cons_cons _ (kE 7 A))⟩))
theorem kC (n o:Nt) (tos:List Int) (tv:Value) (ps:List HP) (w0:World) (l:List HP) (w:World) (hm:Mem w0 (bigE [rS9 46 3 o.sv o.ss sqC,rI9 3 tv tos,bigE ps]::l) w) (hr:RdsNt w0 n) (hn:NtOk n) (ho:NtOk o) (hsk:Skel n o) (hmk:MapOk tos n.cnt o.cnt) (hps:∀w,(bigE ps).holds w→NtRest w o) (hone:o.sv.oneCell'=true∧o.av.oneCell'=true∧o.ov.oneCell'=true) :
    Calls Tryz.prog 74 #[o.agg,n.agg,tv] w (fun e_ w_=>∃v_ p_,e_=.returned v_∧(fun u_ p_=>∃(ps:List HP) (m:Nt),u_=m.agg∧p_=bigE ps∧(∀w,(bigE ps).holds w→RdsNt w m)∧(m.sv.oneCell'=true∧m.av.oneCell'=true∧m.ov.oneCell'=true)∧NtOk m∧Skel n m∧m.gs.length≤o.gs.length) v_ p_∧Mem w0 (p_::l) w_):=
  lO n o tos tv ps w0 l w hm.unbig (fun w hm=>hr.below hm.bel) ⟨hr.sq.one,hr.an.one,hr.ou.one⟩ hn ho hsk hmk hps hone
theorem qT (n o:Nt) (tos:List Int) (tv:Value) (ps:List HP) (w0:World) (l:List HP) (w:World) (hm:Mem w0 (bigE [rS9 46 3 o.sv o.ss sqC,rI9 3 tv tos,bigE ps]::l) w) (hr:∀w,Mem w0 l w→RdsNt w n) (hnone:n.sv.oneCell'=true∧n.av.oneCell'=true∧n.ov.oneCell'=true) (hn:NtOk n) (ho:NtOk o) (hsk:Skel n o) (hmk:MapOk tos n.cnt o.cnt) (hps:∀w,(bigE ps).holds w→NtRest w o) (hone:o.sv.oneCell'=true∧o.av.oneCell'=true∧o.ov.oneCell'=true) :
    Calls Tryz.prog 74 #[o.agg,n.agg,tv] w (fun e_ w_=>∃v_ p_,e_=.returned v_∧(fun u_ p_=>∃(ps:List HP) (m:Nt),u_=m.agg∧p_=bigE ps∧(∀w,(bigE ps).holds w→RdsNt w m)∧(m.sv.oneCell'=true∧m.av.oneCell'=true∧m.ov.oneCell'=true)∧NtOk m∧Skel n m∧m.gs.length≤o.gs.length) v_ p_∧Mem w0 (p_::l) w_):=
  lO n o tos tv ps w0 l w hm.unbig hr hnone hn ho hsk hmk hps hone
theorem xK (n:Nt) (w:World) (hr:RdsNt w n) (hn:NtOk n) :
   Calls Tryz.prog 69 #[.agg #[.int .i64 n.ins,n.sv,n.av,n.ov]] w (Ret w (fun u_ p_=>∃(ps:List HP) (m:Nt),u_=m.agg∧p_=[bigE ps]∧(∀w,(bigE ps).holds w→RdsNt w m)∧(m.sv.oneCell'=true∧m.av.oneCell'=true∧m.ov.oneCell'=true)∧NtOk m∧Skel n m∧m.gs.length≤n.gs.length)):=by
 have hi0:=hn.i0
 have hi1:=hn.i1
 have hs1:=hn.s1
 have ha1:=hn.a1
 have ho1:=hn.o1
 have hcnt:n.cnt=1+n.ins+n.ss.length+n.gs.length:=rfl
 have hfst:n.fst=1+n.ins+n.ss.length:=rfl
 refine bN (N:=74) (args:=[.agg #[jI n.ins,n.sv,n.av,n.ov]]) Tryz.func69 A A (cF ?_)
 refine cR A (cN A A) ?_
 intro b1
 refine cR A (bP (z:=.agg #[jI 0,.slice none 0 0,.slice none 0 0,.slice none 0 0]) A A) ?_
 intro b2
 refine bR (eP (aP A (aF (cs:=[jI n.ins,n.sv,n.av,n.ov]) A A A A A (aD 1 A 0 A)) ?_))
 refine dA A (aJ A A (fun w hm=>aY (eA n w (hr.below hm.bel) hn))) (aU 1 A (aS A (bY (cF (aP A (aF (cs:=[jI n.ins,n.sv,n.av,n.ov]) A A A A A (aD 1 A 0 A)) ?_)))))
 refine eB A A A (aJ A A (fun w hm=>iI n w (hr.below hm.bel) hn)) ?_
 intro v3 p4 R5
 obtain⟨ps,m,tv,rfl,rfl,hps,o1m,⟨hav,hov,hgs0,hos0⟩,hsk,hmok⟩:=R5
 simp only[Nt.agg,hav,hov]
 have hskl:m.ss.length=n.ss.length:=hsk.len
 have hm0:NtOk (Nt.mk m.ins m.sv (.slice none 0 0) (.slice none 0 0) m.ss [] []):=by have h9:=hmok;cases m;simp only at hav hov hgs0 hos0;subst hav hov hgs0 hos0;exact h9
 have hsk0:Skel n (Nt.mk m.ins m.sv (.slice none 0 0) (.slice none 0 0) m.ss [] []):=⟨hsk.ins,hsk.ss⟩
 refine aM 3 A (cR A (bP (z:=.agg #[jI 0,.slice none 0 0,.slice none 0 0,.slice none 0 0]) A A) ?_)
 intro b6
 refine bI (cs':=#[jI m.ins,m.sv,.slice none 0 0,.slice none 0 0]) (i:=0) (off:=0) (us:=[jI m.ins,m.sv,.slice none 0 0,.slice none 0 0]) A A A A A A A (aA A (aA o1m (aA A (aA A bA)))) A A A (aU 1 A (aC (bD 1 A (bE ?_))))
 refine oP (α:=Nat) (β:=Nt) (γ:=CRow) (δ:=List HP) [0,1,2,3,10] A (fun i o tr ps=>[nB9 b6 o,rS9 46 3 o.sv o.ss sqC,rI9 3 tr.v tr.xs,bigE ps,eB9 b2,nB9 b1 n]) (fun i o tr ps=>[(4,tr.v),(5,jI (i:Int))]) (fun i o tr ps=>i≤n.gs.length∧NtOk o∧Skel n o∧o.gs.length≤i∧MapOk tr.xs (n.fst+(i:Int)) o.cnt∧(∀w,(bigE ps).holds w→NtRest w o)∧(o.sv.oneCell'=true∧o.av.oneCell'=true∧o.ov.oneCell'=true)) (fun i o tr ps=>n.gs.length-i) 0 (Nt.mk m.ins m.sv (.slice none 0 0) (.slice none 0 0) m.ss [] []) (CRow.mk _ (evs2 n.fst.toNat)) _ ⟨by omega,hm0,hsk0,by simp,by have h9:=mE (k:=n.fst.toNat) (m:=n.fst) (by omega);rw[Int.toNat_of_nonneg (by omega)] at h9;rw[show(Nt.mk m.ins m.sv (.slice none 0 0) (.slice none 0 0) m.ss [] []).cnt=n.fst by rw[←hsk0.fst];exact Int.add_zero _];simpa using h9,fun w hw=>⟨hps w hw,(dN (w0:=w) (l:=[]) w (Mem.refl w)),(dN (w0:=w) (l:=[]) w (Mem.refl w))⟩,⟨o1m,A,A⟩⟩ (cT A) (dS A) ?_
 intro i o tr ps hi7
 obtain⟨hi,ho,hsk,hol,hmk,hps,⟨o1o,o2o,o3o⟩⟩:=hi7
 have hmk1:=hmk.1
 obtain⟨hoc1,hoc2,hoc3,hoc4,hoc5,hoc6⟩:=Ao ho
 refine aC (aC (bZ 1 A (aP A (cQ 2 A A A) (aP A (aN A A A (aH 5 A A)) (aP A (bC A Tryz.underlying25 A (aE hr.an)) ?_)))))
 refine bQ A A A A A A (fun h8=>?_) (fun h8=>?_)
 refine bR (aR A (bY (fM (aC ?_))))
 have hani:=hn.an i (by omega)
 have hia:LtOk (n.gs.getD i an0).a (n.fst+(i:Int)):=hani.1
 have hib:LtOk (n.gs.getD i an0).b (n.fst+(i:Int)):=hani.2
 have hta:=(hmk.lit hia).1
 have htb:=(hmk.lit hib).1
 have hia2:=hia
 have hib2:=hib
 unfold LtOk at hta htb hia2 hib2
 refine eF (l:=[nB9 b6 o,rS9 46 3 o.sv o.ss sqC,rI9 3 tr.v tr.xs,bigE ps,eB9 b2,nB9 b1 n]) A 43 [0,1,2,3,4,5,6,7,8,9,10,11,12,13,14,15,16,17,18,19,20,21,22,23,24,25,26,27,28,29,30,31,32,33,34,35,36,37,38,39,40,41,42] (List.take 43 _) (List.drop 43 _) [[],[],[],[2],[],[3,4],[5],[6],[7],[1,8],[9],[],[11],[],[12,13],[14],[15],[16],[10,17],[],[],[20],[],[21,22],[23],[24],[25],[19,26],[27],[],[29],[],[30,31],[32],[33],[34],[28,35],[0,18,36],[37],[37,38],[37,38],[],[37,39,41]] [some 25,some 26,some 27,some 28,some 29,some 30,some 31,some 32,some 33,some 34,some 35,some 36,some 37,some 38,some 39,some 40,some 41,some 42,some 43,some 44,some 45,some 46,some 47,some 48,some 49,some 50,some 51,some 52,some 53,some 54,some 55,some 56,some 57,some 58,some 59,some 60,some 61,some 62,some 24,some 63,some 64,some 6,none] (fun i_ vs_ v_ p_=>match i_ with|0=>v_=.agg #[jI o.ins,o.sv,o.av,o.ov]∧p_=[]|1=>v_=tr.v∧p_=[]|2=>v_=.pointer (some ⟨b1,0+2,none⟩)∧p_=[]|3=>v_=n.av∧p_=[]|4=>v_=jI (i:Int)∧p_=[]|5=>v_=elP n.av ((i:Int).toNat*2)∧p_=[]|6=>v_=elP n.av ((i:Int).toNat*2+0)∧p_=[]|7=>v_=jI ((n.gs.getD i an0).a)∧p_=[]|8=>v_=jI (((n.gs.getD i an0).a) / 2)∧p_=[]|9=>v_=elP tr.v ((((n.gs.getD i an0).a) / 2).toNat*1)∧p_=[]|10=>v_=jI (tr.xs.getD ((((n.gs.getD i an0).a) / 2).toNat) 0)∧p_=[]|11=>v_=.pointer (some ⟨b1,0+2,none⟩)∧p_=[]|12=>v_=n.av∧p_=[]|13=>v_=jI (i:Int)∧p_=[]|14=>v_=elP n.av ((i:Int).toNat*2)∧p_=[]|15=>v_=elP n.av ((i:Int).toNat*2+0)∧p_=[]|16=>v_=jI ((n.gs.getD i an0).a)∧p_=[]|17=>v_=jI (((n.gs.getD i an0).a) % 2)∧p_=[]|18=>v_=jI (mpL tr.xs ((n.gs.getD i an0).a))∧p_=[]|19=>v_=tr.v∧p_=[]|20=>v_=.pointer (some ⟨b1,0+2,none⟩)∧p_=[]|21=>v_=n.av∧p_=[]|22=>v_=jI (i:Int)∧p_=[]|23=>v_=elP n.av ((i:Int).toNat*2)∧p_=[]|24=>v_=elP n.av ((i:Int).toNat*2+1)∧p_=[]|25=>v_=jI ((n.gs.getD i an0).b)∧p_=[]|26=>v_=jI (((n.gs.getD i an0).b) / 2)∧p_=[]|27=>v_=elP tr.v ((((n.gs.getD i an0).b) / 2).toNat*1)∧p_=[]|28=>v_=jI (tr.xs.getD ((((n.gs.getD i an0).b) / 2).toNat) 0)∧p_=[]|29=>v_=.pointer (some ⟨b1,0+2,none⟩)∧p_=[]|30=>v_=n.av∧p_=[]|31=>v_=jI (i:Int)∧p_=[]|32=>v_=elP n.av ((i:Int).toNat*2)∧p_=[]|33=>v_=elP n.av ((i:Int).toNat*2+1)∧p_=[]|34=>v_=jI ((n.gs.getD i an0).b)∧p_=[]|35=>v_=jI (((n.gs.getD i an0).b) % 2)∧p_=[]|36=>v_=jI (mpL tr.xs ((n.gs.getD i an0).b))∧p_=[]|37=>(fun u_ p_=>∃(ps:List HP) (m:Nt) (x:Int),u_=.tuple #[m.agg,jI x]∧p_=[rS9 46 3 m.sv m.ss sqC,bigE ps]∧(∀w,(bigE ps).holds w→NtRest w m)∧(m.sv.oneCell'=true∧m.av.oneCell'=true∧m.ov.oneCell'=true)∧Grew o m x) v_ p_|38=>v_=.tuple #[.agg #[jI (tInH (gV9 vs_ 0)),(tSvH (gV9 vs_ 0)),(tAvH (gV9 vs_ 0)),(tOvH (gV9 vs_ 0))],jI (tXH (gV9 vs_ 0))]∧p_=[]|39=>v_=.agg #[jI (tInH (gV9 vs_ 0)),(tSvH (gV9 vs_ 0)),(tAvH (gV9 vs_ 0)),(tOvH (gV9 vs_ 0))]∧p_=[]|40=>v_=jI (tXH (gV9 vs_ 0))∧p_=[]|41=>IsBox #[jI 0,.slice none 0 0,.slice none 0 0,.slice none 0 0] 28 v_ p_|42=>p_=[boxE (blkOf (gV9 vs_ 2)) #[jI (tInH (gV9 vs_ 0)),(tSvH (gV9 vs_ 0)),(tAvH (gV9 vs_ 0)),(tOvH (gV9 vs_ 0))] 28]|_=>True) [[],[],[],[2],[],[3,4],[5],[6],[7],[1,8],[9],[],[11],[],[12,13],[14],[15],[16],[10,17],[],[],[20],[],[21,22],[23],[24],[25],[19,26],[27],[],[29],[],[30,31],[32],[33],[34],[28,35],[0,18,36],[37],[37,38],[37,38],[],[37,39]] [none,none,none,none,none,none,none,none,none,none,none,none,none,none,none,none,none,none,none,none,none,none,none,none,none,none,none,none,none,none,none,none,none,none,none,none,none,none,none,none,none,none,some 41] [] [0,1,2,3,4,5,6,7,8,9,10,11,12,13,14,15,16,17,18,19,20,21,22,23,24,25,26,27,28,29,30,31,32,33,34,35,36,37,38,39,40,42] 44 (List.take_append_drop 43 _).symm (by kernel_rfl) (by kernel_rfl) (by kernel_rfl) A A ?_ ?_
 refine⟨?_,?_,?_,?_,?_,?_,?_,?_,?_,?_,?_,?_,?_,?_,?_,?_,?_,?_,?_,?_,?_,?_,?_,?_,?_,?_,?_,?_,?_,?_,?_,?_,?_,?_,?_,?_,?_,?_,?_,?_,?_,?_,?_,trivial⟩
 intro vf pf hmu hR
 refine bL [] [] A (aW (aI [3] A) (List.sublist_append_right _ _) ?_)
 exact aT (aF (cs:=[jI o.ins,o.sv,o.av,o.ov]) A A A A A (aD 0 A 0 A))
 intro vf pf hmu hR
 refine bL [] [] A (bH (aI [4] A) ?_)
 exact aT (aK A)
 intro vf pf hmu hR
 refine bL [] [] A (bH (aI [1] A) ?_)
 exact aT (cQ 2 A A A)
 intro vf pf hmu hR
 have e2:=hR 2 (by decide)
 refine bL [2] [2] A (aW (sk 27 (congrArg some e2.1) (aB _)) (List.sublist_append_right _ _) ?_)
 exact aT (aN A A A (aH 5 A A))
 intro vf pf hmu hR
 refine bL [] [] A (bH (aI [5] A) ?_)
 exact aT (aK A)
 intro vf pf hmu hR
 have e3:=hR 3 (by decide)
 have e4:=hR 4 (by decide)
 refine bL [3,4] [3,4] A (aW (sk 28 (congrArg some e3.1) (sk 29 (congrArg some e4.1) (aB _))) (List.sublist_append_right _ _) ?_)
 exact aT (dF 2 A A A A (aE hr.an))
 intro vf pf hmu hR
 have e5:=hR 5 (by decide)
 refine bL [5] [5] A (aW (sk 30 (congrArg some e5.1) (aB _)) (List.sublist_append_right _ _) ?_)
 exact aT (cC (k0:=0) A A A (aE hr.an) (by omega))
 intro vf pf hmu hR
 have e6:=hR 6 (by decide)
 refine bL [6] [6] A (aW (sk 31 (congrArg some e6.1) (aB _)) (List.sublist_append_right _ _) ?_)
 exact aT (bG (u:=jI ((n.gs.getD i an0).a)) A A A (aE hr.an) ((dE anC 2 (fun _=>A) n.gs an0 (show i<_ by omega) (by decide)).trans A))
 intro vf pf hmu hR
 have e7:=hR 7 (by decide)
 refine bL [7] [7] A (bH (sk 32 (congrArg some e7.1) (aB _)) ?_)
 exact aT (fF A A A (by refine⟨?_,?_,?_⟩<;>omega))
 intro vf pf hmu hR
 have e1:=hR 1 (by decide)
 have e8:=hR 8 (by decide)
 refine bL [1,8] [1,8] A (aW (sk 26 (congrArg some e1.1) (sk 33 (congrArg some e8.1) (aB _))) (List.sublist_append_right _ _) ?_)
 exact aT (dF 1 A A A A (aG 2 A))
 intro vf pf hmu hR
 have e9:=hR 9 (by decide)
 refine bL [9] [9] A (aW (sk 34 (congrArg some e9.1) (aB _)) (List.sublist_append_right _ _) ?_)
 exact aT (rR A A A (aG 2 A))
 intro vf pf hmu hR
 refine bL [] [] A (bH (aI [1] A) ?_)
 exact aT (cQ 2 A A A)
 intro vf pf hmu hR
 have e11:=hR 11 (by decide)
 refine bL [11] [11] A (aW (sk 36 (congrArg some e11.1) (aB _)) (List.sublist_append_right _ _) ?_)
 exact aT (aN A A A (aH 5 A A))
 intro vf pf hmu hR
 refine bL [] [] A (bH (aI [5] A) ?_)
 exact aT (aK A)
 intro vf pf hmu hR
 have e12:=hR 12 (by decide)
 have e13:=hR 13 (by decide)
 refine bL [12,13] [12,13] A (aW (sk 37 (congrArg some e12.1) (sk 38 (congrArg some e13.1) (aB _))) (List.sublist_append_right _ _) ?_)
 exact aT (dF 2 A A A A (aE hr.an))
 intro vf pf hmu hR
 have e14:=hR 14 (by decide)
 refine bL [14] [14] A (aW (sk 39 (congrArg some e14.1) (aB _)) (List.sublist_append_right _ _) ?_)
 exact aT (cC (k0:=0) A A A (aE hr.an) (by omega))
 intro vf pf hmu hR
 have e15:=hR 15 (by decide)
 refine bL [15] [15] A (aW (sk 40 (congrArg some e15.1) (aB _)) (List.sublist_append_right _ _) ?_)
 exact aT (bG (u:=jI ((n.gs.getD i an0).a)) A A A (aE hr.an) ((dE anC 2 (fun _=>A) n.gs an0 (show i<_ by omega) (by decide)).trans A))
 intro vf pf hmu hR
 have e16:=hR 16 (by decide)
 refine bL [16] [16] A (bH (sk 41 (congrArg some e16.1) (aB _)) ?_)
 exact aT (cP A (by decide) A A (r:=((n.gs.getD i an0).a) % 2) (Bit.and_one _ (by omega) (by omega)))
 intro vf pf hmu hR
 have e10:=hR 10 (by decide)
 have e17:=hR 17 (by decide)
 refine bL [10,17] [10,17] A (bH (sk 35 (congrArg some e10.1) (sk 42 (congrArg some e17.1) (aB _))) ?_)
 exact aT (cP A (by decide) A A (r:=mpL tr.xs ((n.gs.getD i an0).a)) (lD (by omega) (by omega)))
 intro vf pf hmu hR
 refine bL [] [] A (bH (aI [4] A) ?_)
 exact aT (aK A)
 intro vf pf hmu hR
 refine bL [] [] A (bH (aI [1] A) ?_)
 exact aT (cQ 2 A A A)
 intro vf pf hmu hR
 have e20:=hR 20 (by decide)
 refine bL [20] [20] A (aW (sk 45 (congrArg some e20.1) (aB _)) (List.sublist_append_right _ _) ?_)
 exact aT (aN A A A (aH 5 A A))
 intro vf pf hmu hR
 refine bL [] [] A (bH (aI [5] A) ?_)
 exact aT (aK A)
 intro vf pf hmu hR
 have e21:=hR 21 (by decide)
 have e22:=hR 22 (by decide)
 refine bL [21,22] [21,22] A (aW (sk 46 (congrArg some e21.1) (sk 47 (congrArg some e22.1) (aB _))) (List.sublist_append_right _ _) ?_)
 exact aT (dF 2 A A A A (aE hr.an))
 intro vf pf hmu hR
 have e23:=hR 23 (by decide)
 refine bL [23] [23] A (aW (sk 48 (congrArg some e23.1) (aB _)) (List.sublist_append_right _ _) ?_)
 exact aT (cC (k0:=1) A A A (aE hr.an) (by omega))
 intro vf pf hmu hR
 have e24:=hR 24 (by decide)
 refine bL [24] [24] A (aW (sk 49 (congrArg some e24.1) (aB _)) (List.sublist_append_right _ _) ?_)
 exact aT (bG (u:=jI ((n.gs.getD i an0).b)) A A A (aE hr.an) ((dE anC 2 (fun _=>A) n.gs an0 (show i<_ by omega) (by decide)).trans A))
 intro vf pf hmu hR
 have e25:=hR 25 (by decide)
 refine bL [25] [25] A (bH (sk 50 (congrArg some e25.1) (aB _)) ?_)
 exact aT (fF A A A (by refine⟨?_,?_,?_⟩<;>omega))
 intro vf pf hmu hR
 have e19:=hR 19 (by decide)
 have e26:=hR 26 (by decide)
 refine bL [19,26] [19,26] A (aW (sk 44 (congrArg some e19.1) (sk 51 (congrArg some e26.1) (aB _))) (List.sublist_append_right _ _) ?_)
 exact aT (dF 1 A A A A (aG 2 A))
 intro vf pf hmu hR
 have e27:=hR 27 (by decide)
 refine bL [27] [27] A (aW (sk 52 (congrArg some e27.1) (aB _)) (List.sublist_append_right _ _) ?_)
 exact aT (rR A A A (aG 2 A))
 intro vf pf hmu hR
 refine bL [] [] A (bH (aI [1] A) ?_)
 exact aT (cQ 2 A A A)
 intro vf pf hmu hR
 have e29:=hR 29 (by decide)
 refine bL [29] [29] A (aW (sk 54 (congrArg some e29.1) (aB _)) (List.sublist_append_right _ _) ?_)
 exact aT (aN A A A (aH 5 A A))
 intro vf pf hmu hR
 refine bL [] [] A (bH (aI [5] A) ?_)
 exact aT (aK A)
 intro vf pf hmu hR
 have e30:=hR 30 (by decide)
 have e31:=hR 31 (by decide)
 refine bL [30,31] [30,31] A (aW (sk 55 (congrArg some e30.1) (sk 56 (congrArg some e31.1) (aB _))) (List.sublist_append_right _ _) ?_)
 exact aT (dF 2 A A A A (aE hr.an))
 intro vf pf hmu hR
 have e32:=hR 32 (by decide)
 refine bL [32] [32] A (aW (sk 57 (congrArg some e32.1) (aB _)) (List.sublist_append_right _ _) ?_)
 exact aT (cC (k0:=1) A A A (aE hr.an) (by omega))
 intro vf pf hmu hR
 have e33:=hR 33 (by decide)
 refine bL [33] [33] A (aW (sk 58 (congrArg some e33.1) (aB _)) (List.sublist_append_right _ _) ?_)
 exact aT (bG (u:=jI ((n.gs.getD i an0).b)) A A A (aE hr.an) ((dE anC 2 (fun _=>A) n.gs an0 (show i<_ by omega) (by decide)).trans A))
 intro vf pf hmu hR
 have e34:=hR 34 (by decide)
 refine bL [34] [34] A (bH (sk 59 (congrArg some e34.1) (aB _)) ?_)
 exact aT (cP A (by decide) A A (r:=((n.gs.getD i an0).b) % 2) (Bit.and_one _ (by omega) (by omega)))
 intro vf pf hmu hR
 have e28:=hR 28 (by decide)
 have e35:=hR 35 (by decide)
 refine bL [28,35] [28,35] A (bH (sk 53 (congrArg some e28.1) (sk 60 (congrArg some e35.1) (aB _))) ?_)
 exact aT (cP A (by decide) A A (r:=mpL tr.xs ((n.gs.getD i an0).b)) (lD (by omega) (by omega)))
 intro vf pf hmu hR
 have e0:=hR 0 (by decide)
 have e18:=hR 18 (by decide)
 have e36:=hR 36 (by decide)
 refine bL [0,18,36] [0,18,36] A (aW (sk 25 (congrArg some e0.1) (sk 43 (congrArg some e18.1) (sk 61 (congrArg some e36.1) (aB _)))) (List.sublist_append_right _ _) ?_)
 exact aJ A A (fun w hm=>xP o (mpL tr.xs ((n.gs.getD i an0).a)) (mpL tr.xs ((n.gs.getD i an0).b)) w ((hps w (hm.holds _ (bX (i:=3) A))).rds (aG 1 A w hm)) ho (hmk.lit hia).2 (hmk.lit hib).2 (by omega))
 intro vf pf hmu hR
 have e37:(fun u_ p_=>∃(ps:List HP) (m:Nt) (x:Int),u_=.tuple #[m.agg,jI x]∧p_=[rS9 46 3 m.sv m.ss sqC,bigE ps]∧(∀w,(bigE ps).holds w→NtRest w m)∧(m.sv.oneCell'=true∧m.av.oneCell'=true∧m.ov.oneCell'=true)∧Grew o m x) (vf 37) (pf 37):=hR 37 (by decide)
 obtain⟨v9,vE37⟩:∃x,vf 37=x:=⟨_,rfl⟩
 obtain⟨p10,pE37⟩:∃x,pf 37=x:=⟨_,rfl⟩
 have R11:=e37
 rw[vE37,pE37] at R11
 obtain⟨qs,m2,x,rfl,rfl,hqs,⟨o1q,o2q,o3q⟩,hgr⟩:=R11
 refine bL [37] [37] A (bU (sk 62 (congrArg some vE37) (aB _)) (by simp only[pE37,vE37,fS]<;>rfl) ?_)
 exact cD (aT (aK A)) (fun _ _ h=>⟨h.1.trans (by show _=(.tuple #[.agg #[jI (tInH (vf 37)),(tSvH (vf 37)),(tAvH (vf 37)),(tOvH (vf 37))],jI (tXH (vf 37))]:Value);first|(rw[vE37];done)|(rw[vE37];rfl)),h.2⟩)
 intro vf pf hmu hR
 have e37:(fun u_ p_=>∃(ps:List HP) (m:Nt) (x:Int),u_=.tuple #[m.agg,jI x]∧p_=[rS9 46 3 m.sv m.ss sqC,bigE ps]∧(∀w,(bigE ps).holds w→NtRest w m)∧(m.sv.oneCell'=true∧m.av.oneCell'=true∧m.ov.oneCell'=true)∧Grew o m x) (vf 37) (pf 37):=hR 37 (by decide)
 obtain⟨v9,vE37⟩:∃x,vf 37=x:=⟨_,rfl⟩
 obtain⟨p10,pE37⟩:∃x,pf 37=x:=⟨_,rfl⟩
 have R11:=e37
 rw[vE37,pE37] at R11
 obtain⟨qs,m2,x,rfl,rfl,hqs,⟨o1q,o2q,o3q⟩,hgr⟩:=R11
 have e38:(vf 38)=.tuple #[.agg #[jI (tInH (vf 37)),(tSvH (vf 37)),(tAvH (vf 37)),(tOvH (vf 37))],jI (tXH (vf 37))]∧(pf 38)=[]:=hR 38 (by decide)
 rw[vE37] at e38
 refine bL [37,38] [37,38] A (bU (sk 24 (congrArg some e38.1) (aB _)) (by simp only[pE37,vE37,e38.2,fS]<;>rfl) ?_)
 exact cD (aT (aK A)) (fun _ _ h=>⟨h.1.trans (by show _=(.agg #[jI (tInH (vf 37)),(tSvH (vf 37)),(tAvH (vf 37)),(tOvH (vf 37))]:Value);first|(rw[vE37];done)|(rw[vE37];rfl)),h.2⟩)
 intro vf pf hmu hR
 have e37:(fun u_ p_=>∃(ps:List HP) (m:Nt) (x:Int),u_=.tuple #[m.agg,jI x]∧p_=[rS9 46 3 m.sv m.ss sqC,bigE ps]∧(∀w,(bigE ps).holds w→NtRest w m)∧(m.sv.oneCell'=true∧m.av.oneCell'=true∧m.ov.oneCell'=true)∧Grew o m x) (vf 37) (pf 37):=hR 37 (by decide)
 obtain⟨v9,vE37⟩:∃x,vf 37=x:=⟨_,rfl⟩
 obtain⟨p10,pE37⟩:∃x,pf 37=x:=⟨_,rfl⟩
 have R11:=e37
 rw[vE37,pE37] at R11
 obtain⟨qs,m2,x,rfl,rfl,hqs,⟨o1q,o2q,o3q⟩,hgr⟩:=R11
 have e38:(vf 38)=.tuple #[.agg #[jI (tInH (vf 37)),(tSvH (vf 37)),(tAvH (vf 37)),(tOvH (vf 37))],jI (tXH (vf 37))]∧(pf 38)=[]:=hR 38 (by decide)
 rw[vE37] at e38
 refine bL [37,38] [37,38] A (bU (sk 24 (congrArg some e38.1) (aB _)) (by simp only[pE37,vE37,e38.2,fS]<;>rfl) ?_)
 exact cD (aT (aK A)) (fun _ _ h=>⟨h.1.trans (by show _=(jI (tXH (vf 37)):Value);first|(rw[vE37];done)|(rw[vE37];rfl)),h.2⟩)
 intro vf pf hmu hR
 refine bL [] [] A (aW (aB _) (List.sublist_append_right _ _) ?_)
 exact bP (z:=.agg #[jI 0,.slice none 0 0,.slice none 0 0,.slice none 0 0]) A A
 intro vf pf hmu hR
 have e37:(fun u_ p_=>∃(ps:List HP) (m:Nt) (x:Int),u_=.tuple #[m.agg,jI x]∧p_=[rS9 46 3 m.sv m.ss sqC,bigE ps]∧(∀w,(bigE ps).holds w→NtRest w m)∧(m.sv.oneCell'=true∧m.av.oneCell'=true∧m.ov.oneCell'=true)∧Grew o m x) (vf 37) (pf 37):=hR 37 (by decide)
 obtain⟨v9,vE37⟩:∃x,vf 37=x:=⟨_,rfl⟩
 obtain⟨p10,pE37⟩:∃x,pf 37=x:=⟨_,rfl⟩
 have R11:=e37
 rw[vE37,pE37] at R11
 obtain⟨qs,m2,x,rfl,rfl,hqs,⟨o1q,o2q,o3q⟩,hgr⟩:=R11
 have e39:(vf 39)=.agg #[jI (tInH (vf 37)),(tSvH (vf 37)),(tAvH (vf 37)),(tOvH (vf 37))]∧(pf 39)=[]:=hR 39 (by decide)
 rw[vE37] at e39
 have e41:IsBox #[jI 0,.slice none 0 0,.slice none 0 0,.slice none 0 0] 28 (vf 41) (pf 41):=hR 41 (by decide)
 obtain⟨b12,vE41,pE41⟩:=e41
 refine Or.inl ⟨A,?_⟩
 show RunM _ _ _ (pf 41) (([37,39]:List Nat).flatMap pf++_) (envOf3 _ vf [37,39,41]++_) _ _
 rw[pE41]
 exact cV (sk 6 (congrArg some vE41) (sk 63 (congrArg some e39.1) (aB _))) (by simp only[pE37,vE37,e39.2,fS]<;>rfl) (fD (dR (us:=[jI m2.ins,m2.sv,m2.av,m2.ov]) (off:=0) 0 A A A A A A (aA A (aA o1q (aA o2q (aA o3q bA)))) A A) (fun v_ p_ h=>by show p_=[boxE (blkOf (vf 41)) #[jI (tInH (vf 37)),(tSvH (vf 37)),(tAvH (vf 37)),(tOvH (vf 37))] 28];rw[vE37,vE41];exact h))
 intro vf pf hmu hR
 have e37:(fun u_ p_=>∃(ps:List HP) (m:Nt) (x:Int),u_=.tuple #[m.agg,jI x]∧p_=[rS9 46 3 m.sv m.ss sqC,bigE ps]∧(∀w,(bigE ps).holds w→NtRest w m)∧(m.sv.oneCell'=true∧m.av.oneCell'=true∧m.ov.oneCell'=true)∧Grew o m x) (vf 37) (pf 37):=hR 37 (by decide)
 obtain⟨v9,vE37⟩:∃x,vf 37=x:=⟨_,rfl⟩
 obtain⟨p10,pE37⟩:∃x,pf 37=x:=⟨_,rfl⟩
 have R11:=e37
 rw[vE37,pE37] at R11
 obtain⟨qs,m2,x,rfl,rfl,hqs,⟨o1q,o2q,o3q⟩,hgr⟩:=R11
 have e40:(vf 40)=jI (tXH (vf 37))∧(pf 40)=[]:=hR 40 (by decide)
 rw[vE37] at e40
 have e41:IsBox #[jI 0,.slice none 0 0,.slice none 0 0,.slice none 0 0] 28 (vf 41) (pf 41):=hR 41 (by decide)
 obtain⟨b12,vE41,pE41⟩:=e41
 have e42:(pf 42)=[boxE (blkOf (vf 41)) #[jI (tInH (vf 37)),(tSvH (vf 37)),(tAvH (vf 37)),(tOvH (vf 37))] 28]:=hR 42 (by decide)
 rw[vE37,vE41] at e42
 have pE42:=e42
 have q0:=hR 0 (by decide)
 have q1:=hR 1 (by decide)
 have q2:=hR 2 (by decide)
 have q3:=hR 3 (by decide)
 have q4:=hR 4 (by decide)
 have q5:=hR 5 (by decide)
 have q6:=hR 6 (by decide)
 have q7:=hR 7 (by decide)
 have q8:=hR 8 (by decide)
 have q9:=hR 9 (by decide)
 have q10:=hR 10 (by decide)
 have q11:=hR 11 (by decide)
 have q12:=hR 12 (by decide)
 have q13:=hR 13 (by decide)
 have q14:=hR 14 (by decide)
 have q15:=hR 15 (by decide)
 have q16:=hR 16 (by decide)
 have q17:=hR 17 (by decide)
 have q18:=hR 18 (by decide)
 have q19:=hR 19 (by decide)
 have q20:=hR 20 (by decide)
 have q21:=hR 21 (by decide)
 have q22:=hR 22 (by decide)
 have q23:=hR 23 (by decide)
 have q24:=hR 24 (by decide)
 have q25:=hR 25 (by decide)
 have q26:=hR 26 (by decide)
 have q27:=hR 27 (by decide)
 have q28:=hR 28 (by decide)
 have q29:=hR 29 (by decide)
 have q30:=hR 30 (by decide)
 have q31:=hR 31 (by decide)
 have q32:=hR 32 (by decide)
 have q33:=hR 33 (by decide)
 have q34:=hR 34 (by decide)
 have q35:=hR 35 (by decide)
 have q36:=hR 36 (by decide)
 have q38:=hR 38 (by decide)
 have q39:=hR 39 (by decide)
 have q40:=hR 40 (by decide)
 refine cE (bO [5,4,3,2,1,0] _ (sk 6 (congrArg some vE41) (sk 10 A (sk 21 A (sk 64 (congrArg some e40.1) (aB _))))) A) (by simp only[pE37,vE37,pE42,q0.2,q1.2,q2.2,q3.2,q4.2,q5.2,q6.2,q7.2,q8.2,q9.2,q10.2,q11.2,q12.2,q13.2,q14.2,q15.2,q16.2,q17.2,q18.2,q19.2,q20.2,q21.2,q22.2,q23.2,q24.2,q25.2,q26.2,q27.2,q28.2,q29.2,q30.2,q31.2,q32.2,q33.2,q34.2,q35.2,q36.2,q38.2,q39.2,q40.2,fS]<;>rfl) ?_
 simp only[List.drop_succ_cons,List.drop_zero]
 refine aU 1 A (cF (aP A (aF (cs:=[jI m2.ins,m2.sv,m2.av,m2.ov]) A A A A A (aD 2 A 0 A)) ?_))
 refine bI (cs':=#[jI m2.ins,m2.sv,m2.av,m2.ov]) (i:=3) (off:=0) (us:=[jI m2.ins,m2.sv,m2.av,m2.ov]) A A A A A A A (aA A (aA o1q (aA o2q (aA o3q bA)))) A A A (bR (bZ 2 A ?_))
 refine dP A (bB (z:=jI 0) (s:=1) (cs:=(mI [x])) A Tryz.underlying26 A (by decide) A (by kernel_rfl) A) ?_
 intro g13
 refine cW (i:=6) (z:=jI 0) (bytes:=8) A A A A Tryz.underlying26 (by kernel_rfl) A A A A (aG 0 A) (cO _) (by first|omega|(simp;done)|(simp;omega)) (cH tr.xs ([x])) (dL tr.xs ([x])) (fun _=>A) ?_
 intro v14
 refine dJ 1 A (cK (bZ 1 A (aP A (dM A A A) (dJ 1 A ?_))))
 have hmk2:MapOk (tr.xs++[x]) (n.fst+((i+1:Nat):Int)) m2.cnt:=by have h9:=(hmk.up hgr.cnt).app (x:=x) hgr.lit;rwa [show n.fst+(i:Int)+1=n.fst+((i+1:Nat):Int) by omega] at h9
 have hl1:=hgr.l1
 refine aZ 10 [9,8,2,6,1,4] A A (by decide) ?_
 exact eD (i+1) m2 (CRow.mk v14 (tr.xs++([x]))) qs ⟨by omega,hgr.ok,hsk.trans hgr.sk,by omega,hmk2,hqs,⟨o1q,o2q,o3q⟩⟩ (by omega) (cT A) (dS A)
 refine bR (aS A ?_)
 refine bM (dI ?_)
 refine aO (bF (cF (aP A (aF (cs:=[jI o.ins,o.sv,o.av,o.ov]) A A A A A (aD 0 A 0 A)) (aP A (aF (cs:=[jI n.ins,n.sv,n.av,n.ov]) A A A A A (aD 5 A 0 A)) (aM 1 A ?_)))))
 refine iR 6 [5,4,0,3,2,1] A A (by decide) ?_
 refine pV 3 A ?_
 refine eH (R:=(fun u_ p_=>∃(ps:List HP) (m:Nt),u_=m.agg∧p_=bigE ps∧(∀w,(bigE ps).holds w→RdsNt w m)∧(m.sv.oneCell'=true∧m.av.oneCell'=true∧m.ov.oneCell'=true)∧NtOk m∧Skel n m∧m.gs.length≤o.gs.length)) 0 A A A A A (fun l' w hm=>kC n o tr.xs tr.v ps _ _ w hm hr hn ho hsk (by rwa [show n.fst+(i:Int)=n.cnt by omega] at hmk) hps ⟨o1o,o2o,o3o⟩) ?_
 intro v15 p16 R17
 obtain⟨rs,m3,rfl,rfl,hrs,⟨o1r,o2r,o3r⟩,hm3,hs3,hl3⟩:=R17
 refine eC (l':=[bigE rs,nB9 b6 o,eB9 b2,nB9 b1 n]) A ?_
 refine bI (cs':=#[jI m3.ins,m3.sv,m3.av,m3.ov]) (i:=2) (off:=0) (us:=[jI m3.ins,m3.sv,m3.av,m3.ov]) A A A A A A A (aA A (aA o1r (aA o2r (aA o3r bA)))) A A A (bR ?_)
 exact aV (bV (rs:=[.cell 2 28]) (vs:=[.agg #[jI m3.ins,m3.sv,m3.av,m3.ov]]) (post:=[bigE rs]) A ⟨⟨b2,0,[jI m3.ins,m3.sv,m3.av,m3.ov],A,A,by kernel_rfl,by kernel_rfl,aD 2 A 0 A⟩,trivial⟩ A (eJ [0] A) ⟨_,m3,A,A,hrs,⟨o1r,o2r,o3r⟩,hm3,hs3,by omega⟩)
theorem mZ (tos:List Int) (l:Int) (u:Value) (w:World) (hu:RdsW w u 1 tos.length (tos.map (Value.int .i64))) (hl0:0≤l) (hl:(l / 2).toNat<tos.length) (hl9:tos.length≤100000) (hx:0≤tos.getD (l / 2).toNat 0∧tos.getD (l / 2).toNat 0<4294967296) :
   Calls Tryz.prog 50 #[u,.int .i64 l] w (Ans w (.int .i64 (mpL tos l))):=by
 refine bN (N:=13) (args:=[u,jI l]) Tryz.func50 A A (bD 1 A (aC (bZ 2 A ?_)))
 refine aP A (fF A A A (by refine⟨?_,?_,?_⟩<;>omega)) ?_
 refine aP A (dF 1 A A A A (aE hu)) (aP A (rR A A A (aE hu)) (aM 1 A (aP A (cP A (by decide) A A (r:=l % 2) (Bit.and_one _ (by omega) (by omega))) (aP A (cP A (by decide) A A (r:=mpL tos l) (lD hx.1 hx.2)) (aU 1 A ?_)))))
 exact aV (cA A A A)
theorem wA (tos lits:List Int) (c m:Int) (u v:Value) (w:World) (hu:RdsW w u 1 tos.length (tos.map (Value.int .i64))) (hv:RdsW w v 1 lits.length (lits.map (Value.int .i64))) (hmk:MapOk tos c m) (hm9:m≤100000) (hc9:c≤100000) (hlits:∀x∈lits,LtOk x c) (hl:lits.length≤1000) :
   Calls Tryz.prog 52 #[u,v] w (Ret w (fun v' post=>post=[rI9 3 v' (mpS tos lits)])):=by
 refine bN (N:=22) (args:=[u,v]) Tryz.func52 A A (bD 1 A (cF ?_))
 refine jM 3 1 (aU 1 A (aC (aC (bZ 1 A (aP A (bC A Tryz.underlying26 A (aE hv)) (aU 1 A (bE ?_)))))))
 refine iC (α:=Nat) (β:=Value) (γ:=List Int) [0,1,4,8,9] A (fun i gu zs=>[rI9 3 gu zs]) (fun i gu zs=>[(5,gu),(10,jI (i:Int))]) (fun i gu zs=>i≤lits.length∧zs=mpS tos (lits.take i)) (fun i gu zs=>lits.length-i) 0 _ [] ⟨by omega,A⟩ (cT A) (dS A) ?_
 intro i gu zs hi2
 obtain⟨hi,hz⟩:=hi2
 have hzl:zs.length=i:=by rw[hz];unfold mpS;rw[List.length_map,List.length_take];omega
 refine cF ?_
 refine bQ A A A A A A (fun h3=>?_) (fun h3=>?_)
 refine bR (nF A (bY (fM (cF (aP A (dF 1 A A A A (aE hv)) (aP A (hC A A A (aE hv)) (aM 1 A ?_)))))))
 refine bR (bZ 3 A ?_)
 have hlt:=hlits _ (bS (d:=(0:Int)) (show i<lits.length by omega))
 have htk:=(hmk.lit hlt).1
 have hmk1:=hmk.1
 unfold LtOk at hlt htk
 refine dA A (aJ A A (fun w hm=>aY (mZ tos (lits.getD i 0) _ w ((aE hu) w hm) (by omega) (by omega) (by omega) (by omega)))) (dP A (bB (z:=jI 0) (s:=1) (cs:=(mI [mpL tos (lits.getD i 0)])) A Tryz.underlying26 A (by decide) A (by kernel_rfl) A) ?_)
 intro g4
 refine cW (i:=1) (z:=jI 0) (bytes:=8) A A A A Tryz.underlying26 (by kernel_rfl) A A A A (aG 0 A) (cO _) (by first|omega|(simp;done)|(simp;omega)) (cH zs ([mpL tos (lits.getD i 0)])) (dL zs ([mpL tos (lits.getD i 0)])) (fun _=>A) ?_
 intro v5
 refine dJ 1 A (cK (bJ (aP A (dM A A A) (dJ 1 A ?_))))
 exact cI (i+1) v5 (zs++([mpL tos (lits.getD i 0)])) ⟨by omega,by rw[hz];unfold mpS;rw[eT 0 (show i<lits.length by omega),List.map_append];rfl⟩ (by omega) (cT rfl) (eJ [1] rfl)
 refine bR (nG A ?_)
 refine bM (dI ?_)
 refine aO (bF (bD 2 A ?_))
 exact aV (dX (post:=[rI9 3 gu zs]) A A (dS A) (by rw[hz,List.take_of_length_le (by omega)]))
theorem uF (n:Nt) (w:World) (hr:RdsNt w n) (hn:NtOk n) :
   Calls Tryz.prog 48 #[.agg #[.int .i64 n.ins,n.sv,n.av,n.ov]] w (Ret w (fun v' post=>post=[rI9 3 v' ((fillZ n.cnt.toNat (lfO n.fst)))])):=by
 have hi0:=hn.i0
 have hi1:=hn.i1
 have hs1:=hn.s1
 have ha1:=hn.a1
 have ho1:=hn.o1
 have hcnt:n.cnt=1+n.ins+n.ss.length+n.gs.length:=rfl
 have hfst:n.fst=1+n.ins+n.ss.length:=rfl
 refine bN (N:=20) (args:=[.agg #[jI n.ins,n.sv,n.av,n.ov]]) Tryz.func48 A A (cF ?_)
 refine cR A (cN A A) ?_
 intro b1
 refine aU 1 A (cF (aP A (aF (cs:=[jI n.ins,n.sv,n.av,n.ov]) A A A A A (aD 0 A 0 A)) ?_))
 refine dA A (aJ A A (fun w hm=>aY (eU n w (hr.below hm.bel) hn))) (dP A (gN (z:=jI 0) (s:=1) (bytes:=8) (n:=(List.replicate n.cnt.toNat (0:Int)).length) (cs:=(mI (List.replicate n.cnt.toNat (0:Int)))) A Tryz.underlying26 A (by decide) A A (by first|(rw[List.length_replicate];done)|(rw[List.length_replicate];omega)) (by first|(rw[List.length_replicate];done)|(rw[List.length_replicate];omega)) (by rw[List.length_replicate];omega) (gY _)) ?_)
 intro g2
 refine aU 1 A (aC (bD 1 A (bE ?_)))
 refine fE [rowE 3 1 (.slice (some ⟨g2,0,none⟩) ((List.replicate n.cnt.toNat (0:Int)).length) ((List.replicate n.cnt.toNat (0:Int)).length)) ((fillZ n.cnt.toNat (evs2 0)).length) (mI (fillZ n.cnt.toNat (evs2 0))),nB9 b1 n] (fun w hm=>by rw[show fillZ n.cnt.toNat (evs2 0)=List.replicate n.cnt.toNat (0:Int) by simp[fillZ,evs2]];exact hm) ?_
 refine hO (α:=Nat) [0,1,2,3] A (fun i=>[rowE 3 1 (.slice (some ⟨g2,0,none⟩) ((List.replicate n.cnt.toNat (0:Int)).length) ((List.replicate n.cnt.toNat (0:Int)).length)) ((fillZ n.cnt.toNat (evs2 i)).length) (mI (fillZ n.cnt.toNat (evs2 i))),nB9 b1 n]) (fun i=>[(4,jI (i:Int))]) (fun i=>(i:Int)≤n.fst) (fun i=>n.fst.toNat-i) 0 (by omega) (cT A) (dS A) ?_
 intro i hi3
 have hi:=hi3
 have hei:=lS i
 have hfl:=gL (C:=n.cnt.toNat) (vs:=evs2 i) (by omega)
 refine aC (aC (bZ 1 A (aP A (aF (cs:=[jI n.ins,n.sv,n.av,n.ov]) A A A A A (aD 1 A 0 A)) ?_)))
 refine dA A (aJ A A (fun w hm=>aY (gH n w (hr.below hm.bel) hn))) (bQ A A A A A A (fun h4=>?_) (fun h4=>?_))
 refine bR (aR A (bY (fM (bZ 3 A (aP A (fO A A A (by constructor<;>omega)) (aP A (dF 1 A A A A (aG 0 A)) ?_))))))
 refine eN (i:=0) (n':=((fillZ n.cnt.toNat (evs2 i)).set i (2*(i:Int))).length) (xs':=(mI ((fillZ n.cnt.toNat (evs2 i)).set i (2*(i:Int))))) A A A A A A A A (by first|omega|(simp only[List.length_set];omega)) List.length_set.symm (fB _ _ _) A (dB (cK (bZ 1 A (aP A (dM A A A) (dJ 1 A ?_)))))
 exact oS (l':=[rowE 3 1 (.slice (some ⟨g2,0,none⟩) ((List.replicate n.cnt.toNat (0:Int)).length) ((List.replicate n.cnt.toNat (0:Int)).length)) ((fillZ n.cnt.toNat (evs2 (i+1))).length) (mI (fillZ n.cnt.toNat (evs2 (i+1)))),nB9 b1 n]) (by rw[iK (j:=i) (by omega) (by omega),oV]) (cU (i+1) (by omega) (by omega) (cT A) (dS A))
 refine bR (aS A ?_)
 refine bM (dI ?_)
 refine aO (bF (bD 2 A ?_))
 exact aV (dX (post:=[rowE 3 1 (.slice (some ⟨g2,0,none⟩) ((List.replicate n.cnt.toNat (0:Int)).length) ((List.replicate n.cnt.toNat (0:Int)).length)) ((fillZ n.cnt.toNat (evs2 i)).length) (mI (fillZ n.cnt.toNat (evs2 i)))]) A A (eJ [0] A) (by rw[show i=n.fst.toNat by omega];rfl))
def ImpS (o n:Nt) (tos:List Int) (m:Nt) (us:List Int):Prop:=∀r,impO o.fst n.gs o.gs tos=some r→r=(m.gs,us)∧Gr o m∧MapOk us n.cnt m.cnt
structure ISt where
  m:Nt
  ps:List HP
  us:List Int
  u:Value
theorem wE (o n:Nt) (tos:List Int) (tv:Value) (w0:World) (l:List HP) (w:World) (hm0:Mem w0 (rI9 3 tv tos::l) w) (ro:RdsNt w0 o) (ho:NtOk o) (hr:RdsNt w0 n) (hn:NtOk n) (hmk0:MapOk tos n.fst o.cnt) :
   Calls Tryz.prog 42 #[.agg #[.int .i64 o.ins,o.sv,o.av,o.ov],tv,.agg #[.int .i64 n.ins,n.sv,n.av,n.ov],.int .i64 (-1),.int .i64 0] w (fun e_ w_=>∃v_ p_,e_=.returned v_∧(fun u_ p_=>∃(ps:List HP) (m:Nt) (tv:Value) (us:List Int),u_=.tuple #[m.agg,tv,.bool (impO o.fst n.gs o.gs tos).isSome]∧p_=bigE ps∧(m=o∨∀w,(bigE ps).holds w→RdsNt w m)∧(∀w,(bigE ps).holds w→RdsW w tv 1 us.length (us.map (Value.int .i64)))∧(m.sv.oneCell'=true∧m.av.oneCell'=true∧m.ov.oneCell'=true)∧tv.oneCell'=true∧ImpS o n tos m us) v_ p_∧Mem w0 (p_::l) w_):=by
 have hi0:=hn.i0
 have hi1:=hn.i1
 have hs1:=hn.s1
 have ha1:=hn.a1
 have ho1:=hn.o1
 have hcnt:n.cnt=1+n.ins+n.ss.length+n.gs.length:=rfl
 have hfst:n.fst=1+n.ins+n.ss.length:=rfl
 have hmk01:=hmk0.1
 refine fW (N:=68) (args:=[.agg #[jI o.ins,o.sv,o.av,o.ov],tv,.agg #[jI n.ins,n.sv,n.av,n.ov],jI (-1),jI 0]) Tryz.func42 A A hm0 (cF ?_)
 refine cR A (cN A A) ?_
 intro b1
 refine cR A (cN A A) ?_
 intro b2
 refine cR A (bP (z:=.agg #[jI 0,.slice none 0 0,.slice none 0 0,.slice none 0 0]) A A) ?_
 intro b3
 refine aU 2 A (aC (bD 1 A (bE ?_)))
 refine fE (bigE []::eB9 b3::nB9 b2 n::nB9 b1 o::rI9 3 tv tos::l) eW ?_
 refine gT (α:=Nat) (β:=ISt) [0,2,3,4,5,7,10,11,12] A (fun i q=>(bigE q.ps::eB9 b3::nB9 b2 n::nB9 b1 q.m::rI9 3 q.u q.us::l)) (fun i q=>[(1,q.u),(13,jI (i:Int))]) (fun i q=>i≤n.gs.length∧Gr o q.m∧impO o.fst (n.gs.take i) o.gs tos=some (q.m.gs,q.us)∧MapOk q.us (n.fst+(i:Int)) q.m.cnt∧(q.m=o∨∀w,(bigE q.ps).holds w→RdsNt w q.m)∧(q.m.sv.oneCell'=true∧q.m.av.oneCell'=true∧q.m.ov.oneCell'=true)) (fun i q=>n.gs.length-i) 0 ⟨o,[],tos,_⟩ ⟨Nat.zero_le _,Gr.refl ho,A,by simpa using hmk0,.inl A,⟨ro.sq.one,ro.an.one,ro.ou.one⟩⟩ (cT A) (.refl _) ?_
 intro i q hi4
 obtain⟨hi,hG,hIm,hmk,hNq,⟨o1q,o2q,o3q⟩⟩:=hi4
 have hmk1:=hmk.1
 have hcq:=eX hG.ok
 refine aC (aC (bZ 1 A (aP A (cQ 2 A A A) (aP A (aN A A A (aH 2 A A)) (aP A (bC A Tryz.underlying25 A (aE hr.an)) ?_)))))
 refine bQ A A A A A A (fun h5=>?_) (fun h5=>?_)
 refine bR (aR A (bY (fM (aC (aC (bZ 2 A ?_))))))
 refine cM A A A A A A (fun h6=>absurd h6 (by omega)) (fun h6=>?_)
 refine bR (aS A (bY (aC ?_)))
 have hani:=hn.an i (by omega)
 have hia:LtOk (n.gs.getD i an0).a (n.fst+(i:Int)):=hani.1
 have hib:LtOk (n.gs.getD i an0).b (n.fst+(i:Int)):=hani.2
 have hx2:=hmk.two hia hib
 have hmpl:=kV q.us [(n.gs.getD i an0).a,(n.gs.getD i an0).b]
 simp only[List.length_cons,List.length_nil] at hmpl
 refine eV A 15 [0,1,2,3,4,5,6,7,8,9,10,11,12,13,14] (List.take 15 _) (List.drop 15 _) [[],[],[1],[],[2,3],[4],[5],[],[7],[],[8,9],[10],[11],[6,12],[0,13]] [31,32,33,34,35,36,37,38,39,40,41,42,43,44,45] (fun i_ vs_ v_ p_=>match i_ with|0=>v_=q.u∧p_=[]|1=>v_=.pointer (some ⟨b2,0+2,none⟩)∧p_=[]|2=>v_=n.av∧p_=[]|3=>v_=jI (i:Int)∧p_=[]|4=>v_=elP n.av ((i:Int).toNat*2)∧p_=[]|5=>v_=elP n.av ((i:Int).toNat*2+0)∧p_=[]|6=>v_=jI ((n.gs.getD i an0).a)∧p_=[]|7=>v_=.pointer (some ⟨b2,0+2,none⟩)∧p_=[]|8=>v_=n.av∧p_=[]|9=>v_=jI (i:Int)∧p_=[]|10=>v_=elP n.av ((i:Int).toNat*2)∧p_=[]|11=>v_=elP n.av ((i:Int).toNat*2+1)∧p_=[]|12=>v_=jI ((n.gs.getD i an0).b)∧p_=[]|13=>IsRow 3 1 2 (mI [(n.gs.getD i an0).a,(n.gs.getD i an0).b]) v_ p_|14=>(fun v' post=>post=[rI9 3 v' ((mpS q.us ([(n.gs.getD i an0).a,(n.gs.getD i an0).b])))]) v_ p_|_=>True) (List.take_append_drop 15 _).symm (by kernel_rfl) (by kernel_rfl) A A ?_ ?_
 refine⟨?_,?_,?_,?_,?_,?_,?_,?_,?_,?_,?_,?_,?_,?_,?_,trivial⟩
 intro vf pf hR
 exact fX A (aI [1] A) (aT (aK A))
 intro vf pf hR
 exact fX A (aI [7] A) (aT (cQ 2 A A A))
 intro vf pf hR
 have e1:=hR 1 (by decide)
 exact eZ A (sk 32 (congrArg some e1.1) (aB _)) (aT (aN A A A (aH 2 A A)))
 intro vf pf hR
 exact fX A (aI [13] A) (aT (aK A))
 intro vf pf hR
 have e2:=hR 2 (by decide)
 have e3:=hR 3 (by decide)
 exact eZ A (sk 33 (congrArg some e2.1) (sk 34 (congrArg some e3.1) (aB _))) (aT (dF 2 A A A A (aE hr.an)))
 intro vf pf hR
 have e4:=hR 4 (by decide)
 exact eZ A (sk 35 (congrArg some e4.1) (aB _)) (aT (cC (k0:=0) A A A (aE hr.an) (by omega)))
 intro vf pf hR
 have e5:=hR 5 (by decide)
 exact eZ A (sk 36 (congrArg some e5.1) (aB _)) (aT (bG (u:=jI ((n.gs.getD i an0).a)) A A A (aE hr.an) ((dE anC 2 (fun _=>A) n.gs an0 (show i<_ by omega) (by decide)).trans A)))
 intro vf pf hR
 exact fX A (aI [7] A) (aT (cQ 2 A A A))
 intro vf pf hR
 have e7:=hR 7 (by decide)
 exact eZ A (sk 38 (congrArg some e7.1) (aB _)) (aT (aN A A A (aH 2 A A)))
 intro vf pf hR
 exact fX A (aI [13] A) (aT (aK A))
 intro vf pf hR
 have e8:=hR 8 (by decide)
 have e9:=hR 9 (by decide)
 exact eZ A (sk 39 (congrArg some e8.1) (sk 40 (congrArg some e9.1) (aB _))) (aT (dF 2 A A A A (aE hr.an)))
 intro vf pf hR
 have e10:=hR 10 (by decide)
 exact eZ A (sk 41 (congrArg some e10.1) (aB _)) (aT (cC (k0:=1) A A A (aE hr.an) (by omega)))
 intro vf pf hR
 have e11:=hR 11 (by decide)
 exact eZ A (sk 42 (congrArg some e11.1) (aB _)) (aT (bG (u:=jI ((n.gs.getD i an0).b)) A A A (aE hr.an) ((dE anC 2 (fun _=>A) n.gs an0 (show i<_ by omega) (by decide)).trans A)))
 intro vf pf hR
 have e6:=hR 6 (by decide)
 have e12:=hR 12 (by decide)
 exact eZ A (sk 37 (congrArg some e6.1) (sk 43 (congrArg some e12.1) (aB _))) (bB (z:=jI 0) (s:=1) (cs:=(mI [(n.gs.getD i an0).a,(n.gs.getD i an0).b])) A Tryz.underlying26 A (by decide) A (by kernel_rfl) A)
 intro vf pf hR
 have e0:=hR 0 (by decide)
 have e13:IsRow 3 1 2 (mI [(n.gs.getD i an0).a,(n.gs.getD i an0).b]) (vf 13) (pf 13):=hR 13 (by decide)
 obtain⟨g7,vE13,pE13⟩:=e13
 refine Or.inl ⟨A,?_⟩
 exact bU (sk 31 (congrArg some e0.1) (sk 44 (congrArg some vE13) (aB _))) (by simp only[pE13,vE13,e0.2,fS]<;>rfl) (aJ A A (fun w hm=>gU q.us ([(n.gs.getD i an0).a,(n.gs.getD i an0).b]) _ _ _ _ w ((aG 5 A) w hm) ((aG 0 A) w hm) hmk (by omega) (by omega) (vG hia hib) (by simp)))
 intro vf pf hR
 have e13:IsRow 3 1 2 (mI [(n.gs.getD i an0).a,(n.gs.getD i an0).b]) (vf 13) (pf 13):=hR 13 (by decide)
 obtain⟨g7,vE13,pE13⟩:=e13
 have e14:(fun v' post=>post=[rI9 3 v' ((mpS q.us ([(n.gs.getD i an0).a,(n.gs.getD i an0).b])))]) (vf 14) (pf 14):=hR 14 (by decide)
 obtain⟨v8,vE14⟩:∃x,vf 14=x:=⟨_,rfl⟩
 obtain⟨p9,pE14⟩:∃x,pf 14=x:=⟨_,rfl⟩
 have R10:=e14
 rw[vE14,pE14] at R10
 subst R10
 have q0:=hR 0 (by decide)
 have q1:=hR 1 (by decide)
 have q2:=hR 2 (by decide)
 have q3:=hR 3 (by decide)
 have q4:=hR 4 (by decide)
 have q5:=hR 5 (by decide)
 have q6:=hR 6 (by decide)
 have q7:=hR 7 (by decide)
 have q8:=hR 8 (by decide)
 have q9:=hR 9 (by decide)
 have q10:=hR 10 (by decide)
 have q11:=hR 11 (by decide)
 have q12:=hR 12 (by decide)
 refine cE (bO [26,21,13,12,11,10,7,5,4,3,2,1,0] _ (sk 45 (congrArg some vE14) (aB _)) A) (by simp only[pE13,vE13,pE14,vE14,q0.2,q1.2,q2.2,q3.2,q4.2,q5.2,q6.2,q7.2,q8.2,q9.2,q10.2,q11.2,q12.2,fS]<;>rfl) ?_
 simp only[List.drop_succ_cons,List.drop_zero]
 refine aU 1 A (aC ?_)
 refine eF (l:=(rowE 3 1 (.slice (some ⟨g7,0,none⟩) 2 2) 2 (mI [(n.gs.getD i an0).a,(n.gs.getD i an0).b])::rowE 3 1 v8 ((mpS q.us ([(n.gs.getD i an0).a,(n.gs.getD i an0).b])).length) (mI (mpS q.us ([(n.gs.getD i an0).a,(n.gs.getD i an0).b])))::bigE q.ps::eB9 b3::nB9 b2 n::nB9 b1 q.m::rI9 3 q.u q.us::l)) A 13 [0,1,2,3,4,5,6,7,8,9,10,11,12] (List.take 13 _) (List.drop 13 _) [[],[],[1],[2],[],[4],[5],[0,3,6],[7],[7,8],[7,8],[],[7,9,11]] [some 47,some 48,some 49,some 50,some 51,some 52,some 53,some 54,some 46,some 55,some 56,some 15,none] (fun i_ vs_ v_ p_=>match i_ with|0=>v_=.agg #[jI q.m.ins,q.m.sv,q.m.av,q.m.ov]∧p_=[]|1=>v_=v8∧p_=[]|2=>v_=elP v8 ((0:Int).toNat*1)∧p_=[]|3=>v_=jI ((mpS q.us ([(n.gs.getD i an0).a,(n.gs.getD i an0).b])).getD 0 0)∧p_=[]|4=>v_=v8∧p_=[]|5=>v_=elP v8 ((1:Int).toNat*1)∧p_=[]|6=>v_=jI ((mpS q.us ([(n.gs.getD i an0).a,(n.gs.getD i an0).b])).getD 1 0)∧p_=[]|7=>(fun u_ p_=>GP9 q.m (andO q.m.fst q.m.gs ((mpS q.us ([(n.gs.getD i an0).a,(n.gs.getD i an0).b])).getD 0 0) ((mpS q.us ([(n.gs.getD i an0).a,(n.gs.getD i an0).b])).getD 1 0)) u_ p_) v_ p_|8=>v_=.tuple #[.agg #[jI (intOf_o (ag9 0 (tp9 0 (gV9 vs_ 0)))),(ag9 1 (tp9 0 (gV9 vs_ 0))),(ag9 2 (tp9 0 (gV9 vs_ 0))),(ag9 3 (tp9 0 (gV9 vs_ 0)))],jI (intOf_o (tp9 1 (gV9 vs_ 0)))]∧p_=[]|9=>v_=.agg #[jI (intOf_o (ag9 0 (tp9 0 (gV9 vs_ 0)))),(ag9 1 (tp9 0 (gV9 vs_ 0))),(ag9 2 (tp9 0 (gV9 vs_ 0))),(ag9 3 (tp9 0 (gV9 vs_ 0)))]∧p_=[]|10=>v_=jI (intOf_o (tp9 1 (gV9 vs_ 0)))∧p_=[]|11=>IsBox #[jI 0,.slice none 0 0,.slice none 0 0,.slice none 0 0] 28 v_ p_|12=>p_=[boxE (blkOf (gV9 vs_ 2)) #[jI (intOf_o (ag9 0 (tp9 0 (gV9 vs_ 0)))),(ag9 1 (tp9 0 (gV9 vs_ 0))),(ag9 2 (tp9 0 (gV9 vs_ 0))),(ag9 3 (tp9 0 (gV9 vs_ 0)))] 28]|_=>True) [[],[],[1],[2],[],[4],[5],[0,3,6],[7],[7,8],[7,8],[],[7,9]] [none,none,none,none,none,none,none,none,none,none,none,none,some 11] [] [0,1,2,3,4,5,6,7,8,9,10,12] 14 (List.take_append_drop 13 _).symm (by kernel_rfl) (by kernel_rfl) (by kernel_rfl) A A ?_ ?_
 refine⟨?_,?_,?_,?_,?_,?_,?_,?_,?_,?_,?_,?_,?_,trivial⟩
 intro vf pf hmu hR
 refine bL [] [] A (aW (aI [5] A) (List.sublist_append_right _ _) ?_)
 exact aT (aF (cs:=[jI q.m.ins,q.m.sv,q.m.av,q.m.ov]) A A A A A (aD 5 A 0 A))
 intro vf pf hmu hR
 refine bL [] [] A (bH (aI [14] A) ?_)
 exact aT (aK A)
 intro vf pf hmu hR
 have e1:=hR 1 (by decide)
 refine bL [1] [1] A (aW (sk 48 (congrArg some e1.1) (aB _)) (List.sublist_append_right _ _) ?_)
 exact aT (dF 1 A A A A (aG 1 A))
 intro vf pf hmu hR
 have e2:=hR 2 (by decide)
 refine bL [2] [2] A (aW (sk 49 (congrArg some e2.1) (aB _)) (List.sublist_append_right _ _) ?_)
 exact aT (bG (u:=jI ((mpS q.us ([(n.gs.getD i an0).a,(n.gs.getD i an0).b])).getD 0 0)) A A A (aG 1 A) (eS (show _<(mpS q.us ([(n.gs.getD i an0).a,(n.gs.getD i an0).b])).length by omega)))
 intro vf pf hmu hR
 refine bL [] [] A (bH (aI [14] A) ?_)
 exact aT (aK A)
 intro vf pf hmu hR
 have e4:=hR 4 (by decide)
 refine bL [4] [4] A (aW (sk 51 (congrArg some e4.1) (aB _)) (List.sublist_append_right _ _) ?_)
 exact aT (dF 1 A A A A (aG 1 A))
 intro vf pf hmu hR
 have e5:=hR 5 (by decide)
 refine bL [5] [5] A (aW (sk 52 (congrArg some e5.1) (aB _)) (List.sublist_append_right _ _) ?_)
 exact aT (bG (u:=jI ((mpS q.us ([(n.gs.getD i an0).a,(n.gs.getD i an0).b])).getD 1 0)) A A A (aG 1 A) (eS (show _<(mpS q.us ([(n.gs.getD i an0).a,(n.gs.getD i an0).b])).length by omega)))
 intro vf pf hmu hR
 have e0:=hR 0 (by decide)
 have e3:=hR 3 (by decide)
 have e6:=hR 6 (by decide)
 refine bL [0,3,6] [0,3,6] A (aW (sk 47 (congrArg some e0.1) (sk 50 (congrArg some e3.1) (sk 53 (congrArg some e6.1) (aB _)))) (List.sublist_append_right _ _) ?_)
 exact aJ A A (fun w hm=>lW q.m ((mpS q.us ([(n.gs.getD i an0).a,(n.gs.getD i an0).b])).getD 0 0) ((mpS q.us ([(n.gs.getD i an0).a,(n.gs.getD i an0).b])).getD 1 0) w (zP hNq (ro.below hm.bel) (hm.holds _ (bX (i:=2) A))) hG.ok (hx2.1.2) (hx2.2.2))
 intro vf pf hmu hR
 have e7:(fun u_ p_=>GP9 q.m (andO q.m.fst q.m.gs ((mpS q.us ([(n.gs.getD i an0).a,(n.gs.getD i an0).b])).getD 0 0) ((mpS q.us ([(n.gs.getD i an0).a,(n.gs.getD i an0).b])).getD 1 0)) u_ p_) (vf 7) (pf 7):=hR 7 (by decide)
 obtain⟨v11,vE7⟩:∃x,vf 7=x:=⟨_,rfl⟩
 obtain⟨p12,pE7⟩:∃x,pf 7=x:=⟨_,rfl⟩
 have R13:=e7
 rw[vE7,pE7] at R13
 obtain⟨ps2,m2,z2,rfl,rfl,hp2,⟨o1p,o2p,o3p⟩,g2⟩:=R13
 have l2:=g2.ln
 have c2:=g2.gr.cnt
 have r2:=eX g2.gr.ok
 refine bL [7] [7] A (bU (sk 54 (congrArg some vE7) (aB _)) (by simp only[pE7,vE7,fS]<;>rfl) ?_)
 exact cD (aT (aK A)) (fun _ _ h=>⟨h.1.trans (by show _=(.tuple #[.agg #[jI (intOf_o (ag9 0 (tp9 0 (vf 7)))),(ag9 1 (tp9 0 (vf 7))),(ag9 2 (tp9 0 (vf 7))),(ag9 3 (tp9 0 (vf 7)))],jI (intOf_o (tp9 1 (vf 7)))]:Value);first|(rw[vE7];done)|(rw[vE7];rfl)),h.2⟩)
 intro vf pf hmu hR
 have e7:(fun u_ p_=>GP9 q.m (andO q.m.fst q.m.gs ((mpS q.us ([(n.gs.getD i an0).a,(n.gs.getD i an0).b])).getD 0 0) ((mpS q.us ([(n.gs.getD i an0).a,(n.gs.getD i an0).b])).getD 1 0)) u_ p_) (vf 7) (pf 7):=hR 7 (by decide)
 obtain⟨v11,vE7⟩:∃x,vf 7=x:=⟨_,rfl⟩
 obtain⟨p12,pE7⟩:∃x,pf 7=x:=⟨_,rfl⟩
 have R13:=e7
 rw[vE7,pE7] at R13
 obtain⟨ps2,m2,z2,rfl,rfl,hp2,⟨o1p,o2p,o3p⟩,g2⟩:=R13
 have l2:=g2.ln
 have c2:=g2.gr.cnt
 have r2:=eX g2.gr.ok
 have e8:(vf 8)=.tuple #[.agg #[jI (intOf_o (ag9 0 (tp9 0 (vf 7)))),(ag9 1 (tp9 0 (vf 7))),(ag9 2 (tp9 0 (vf 7))),(ag9 3 (tp9 0 (vf 7)))],jI (intOf_o (tp9 1 (vf 7)))]∧(pf 8)=[]:=hR 8 (by decide)
 rw[vE7] at e8
 refine bL [7,8] [7,8] A (bU (sk 46 (congrArg some e8.1) (aB _)) (by simp only[pE7,vE7,e8.2,fS]<;>rfl) ?_)
 exact cD (aT (aK A)) (fun _ _ h=>⟨h.1.trans (by show _=(.agg #[jI (intOf_o (ag9 0 (tp9 0 (vf 7)))),(ag9 1 (tp9 0 (vf 7))),(ag9 2 (tp9 0 (vf 7))),(ag9 3 (tp9 0 (vf 7)))]:Value);first|(rw[vE7];done)|(rw[vE7];rfl)),h.2⟩)
 intro vf pf hmu hR
 have e7:(fun u_ p_=>GP9 q.m (andO q.m.fst q.m.gs ((mpS q.us ([(n.gs.getD i an0).a,(n.gs.getD i an0).b])).getD 0 0) ((mpS q.us ([(n.gs.getD i an0).a,(n.gs.getD i an0).b])).getD 1 0)) u_ p_) (vf 7) (pf 7):=hR 7 (by decide)
 obtain⟨v11,vE7⟩:∃x,vf 7=x:=⟨_,rfl⟩
 obtain⟨p12,pE7⟩:∃x,pf 7=x:=⟨_,rfl⟩
 have R13:=e7
 rw[vE7,pE7] at R13
 obtain⟨ps2,m2,z2,rfl,rfl,hp2,⟨o1p,o2p,o3p⟩,g2⟩:=R13
 have l2:=g2.ln
 have c2:=g2.gr.cnt
 have r2:=eX g2.gr.ok
 have e8:(vf 8)=.tuple #[.agg #[jI (intOf_o (ag9 0 (tp9 0 (vf 7)))),(ag9 1 (tp9 0 (vf 7))),(ag9 2 (tp9 0 (vf 7))),(ag9 3 (tp9 0 (vf 7)))],jI (intOf_o (tp9 1 (vf 7)))]∧(pf 8)=[]:=hR 8 (by decide)
 rw[vE7] at e8
 refine bL [7,8] [7,8] A (bU (sk 46 (congrArg some e8.1) (aB _)) (by simp only[pE7,vE7,e8.2,fS]<;>rfl) ?_)
 exact cD (aT (aK A)) (fun _ _ h=>⟨h.1.trans (by show _=(jI (intOf_o (tp9 1 (vf 7))):Value);first|(rw[vE7];done)|(rw[vE7];rfl)),h.2⟩)
 intro vf pf hmu hR
 refine bL [] [] A (aW (aB _) (List.sublist_append_right _ _) ?_)
 exact bP (z:=.agg #[jI 0,.slice none 0 0,.slice none 0 0,.slice none 0 0]) A A
 intro vf pf hmu hR
 have e7:(fun u_ p_=>GP9 q.m (andO q.m.fst q.m.gs ((mpS q.us ([(n.gs.getD i an0).a,(n.gs.getD i an0).b])).getD 0 0) ((mpS q.us ([(n.gs.getD i an0).a,(n.gs.getD i an0).b])).getD 1 0)) u_ p_) (vf 7) (pf 7):=hR 7 (by decide)
 obtain⟨v11,vE7⟩:∃x,vf 7=x:=⟨_,rfl⟩
 obtain⟨p12,pE7⟩:∃x,pf 7=x:=⟨_,rfl⟩
 have R13:=e7
 rw[vE7,pE7] at R13
 obtain⟨ps2,m2,z2,rfl,rfl,hp2,⟨o1p,o2p,o3p⟩,g2⟩:=R13
 have l2:=g2.ln
 have c2:=g2.gr.cnt
 have r2:=eX g2.gr.ok
 have e9:(vf 9)=.agg #[jI (intOf_o (ag9 0 (tp9 0 (vf 7)))),(ag9 1 (tp9 0 (vf 7))),(ag9 2 (tp9 0 (vf 7))),(ag9 3 (tp9 0 (vf 7)))]∧(pf 9)=[]:=hR 9 (by decide)
 rw[vE7] at e9
 have e11:IsBox #[jI 0,.slice none 0 0,.slice none 0 0,.slice none 0 0] 28 (vf 11) (pf 11):=hR 11 (by decide)
 obtain⟨b14,vE11,pE11⟩:=e11
 refine Or.inl ⟨A,?_⟩
 show RunM _ _ _ (pf 11) (([7,9]:List Nat).flatMap pf++_) (envOf3 _ vf [7,9,11]++_) _ _
 rw[pE11]
 exact cV (sk 15 (congrArg some vE11) (sk 55 (congrArg some e9.1) (aB _))) (by simp only[pE7,vE7,e9.2,fS]<;>rfl) (fD (dR (us:=[jI m2.ins,m2.sv,m2.av,m2.ov]) (off:=0) 0 A A A A A A (aA A (aA o1p (aA o2p (aA o3p bA)))) A A) (fun v_ p_ h=>by show p_=[boxE (blkOf (vf 11)) #[jI (intOf_o (ag9 0 (tp9 0 (vf 7)))),(ag9 1 (tp9 0 (vf 7))),(ag9 2 (tp9 0 (vf 7))),(ag9 3 (tp9 0 (vf 7)))] 28];rw[vE7,vE11];exact h))
 intro vf pf hmu hR
 have e7:(fun u_ p_=>GP9 q.m (andO q.m.fst q.m.gs ((mpS q.us ([(n.gs.getD i an0).a,(n.gs.getD i an0).b])).getD 0 0) ((mpS q.us ([(n.gs.getD i an0).a,(n.gs.getD i an0).b])).getD 1 0)) u_ p_) (vf 7) (pf 7):=hR 7 (by decide)
 obtain⟨v11,vE7⟩:∃x,vf 7=x:=⟨_,rfl⟩
 obtain⟨p12,pE7⟩:∃x,pf 7=x:=⟨_,rfl⟩
 have R13:=e7
 rw[vE7,pE7] at R13
 obtain⟨ps2,m2,z2,rfl,rfl,hp2,⟨o1p,o2p,o3p⟩,g2⟩:=R13
 have l2:=g2.ln
 have c2:=g2.gr.cnt
 have r2:=eX g2.gr.ok
 have e10:(vf 10)=jI (intOf_o (tp9 1 (vf 7)))∧(pf 10)=[]:=hR 10 (by decide)
 rw[vE7] at e10
 have e11:IsBox #[jI 0,.slice none 0 0,.slice none 0 0,.slice none 0 0] 28 (vf 11) (pf 11):=hR 11 (by decide)
 obtain⟨b14,vE11,pE11⟩:=e11
 have e12:(pf 12)=[boxE (blkOf (vf 11)) #[jI (intOf_o (ag9 0 (tp9 0 (vf 7)))),(ag9 1 (tp9 0 (vf 7))),(ag9 2 (tp9 0 (vf 7))),(ag9 3 (tp9 0 (vf 7)))] 28]:=hR 12 (by decide)
 rw[vE7,vE11] at e12
 have pE12:=e12
 have q0:=hR 0 (by decide)
 have q1:=hR 1 (by decide)
 have q2:=hR 2 (by decide)
 have q3:=hR 3 (by decide)
 have q4:=hR 4 (by decide)
 have q5:=hR 5 (by decide)
 have q6:=hR 6 (by decide)
 have q8:=hR 8 (by decide)
 have q9:=hR 9 (by decide)
 have q10:=hR 10 (by decide)
 refine cE (bO [14,13,12,11,10,7,5,4,3,2,1,0] _ (sk 15 (congrArg some vE11) (sk 21 A (sk 26 A (sk 56 (congrArg some e10.1) (aB _))))) A) (by simp only[pE7,vE7,pE12,q0.2,q1.2,q2.2,q3.2,q4.2,q5.2,q6.2,q8.2,q9.2,q10.2,fS]<;>rfl) ?_
 simp only[List.drop_succ_cons,List.drop_zero]
 refine aU 1 A (eP ?_)
 have hzq:intOf_o (tp9 1 (Value.tuple #[m2.agg,Value.int IntKind.i64 z2]))=z2:=rfl
 have hzp:intOf_o (tp9 1 (Value.tuple #[m2.agg,jI z2]))=z2:=rfl
 refine aM 1 A (bQ A A A A A A (fun h15=>?_) (fun h15=>?_))
 refine bR (aR A (cF (aP A (aF (cs:=[jI q.m.ins,q.m.sv,q.m.av,q.m.ov]) A A A A A (aD 7 A 0 A)) (aM 1 A ?_))))
 refine bI (cs':=#[jI q.m.ins,q.m.sv,q.m.av,q.m.ov]) (i:=5) (off:=0) (us:=[jI q.m.ins,q.m.sv,q.m.av,q.m.ov]) A A A A A A A (aA A (aA o1q (aA o2q (aA o3q bA)))) A A A (aU 2 A ?_)
 refine aV (aL ?_)
 refine aQ (fL ?_)
 refine aQ (aL ?_)
 refine cY (fun w hm=>(aG 8 A w hm).one) (fun ho1=>?_)
 have hnone:impO o.fst n.gs o.gs tos=none:=by have h9:=qX (n.gs.drop (i+1)) (show impO o.fst (n.gs.take (i+1)) o.gs tos=none by rw[mA (by omega) hIm,←hG.fst,show andO q.m.fst q.m.gs (mpL q.us (n.gs.getD i an0).a) (mpL q.us (n.gs.getD i an0).b)=none from g2.es.neg (by omega)];rfl);rwa [List.take_append_drop] at h9
 refine aZ 9 [5,8,4] A A (by decide) ?_
 refine cB 2 A ?_
 exact eG (rs:=[.cell 10 28,.tmp 11,.tmp 12]) (vs:=[.agg #[jI q.m.ins,q.m.sv,q.m.av,q.m.ov],q.u,.bool false]) rfl ⟨⟨b3,0,[jI q.m.ins,q.m.sv,q.m.av,q.m.ov],rfl,rfl,by kernel_rfl,by kernel_rfl,aD 1 rfl 0 rfl⟩,rfl,rfl,trivial⟩ rfl (fun w hm=>⟨_,bigE [bigE q.ps,rI9 3 q.u q.us],rfl,⟨_,q.m,_,q.us,by rw[hnone];rfl,rfl,hNq.imp id (fun h9 w hw=>h9 w (aX hw cL)),fun w hw=>bT (aX hw (dK cL)),⟨o1q,o2q,o3q⟩,ho1,fun r e=>by rw[hnone] at e;cases e⟩,hm.sub (.cons_cons _ (.cons _ (.refl _)))⟩)
 refine bR (aS A (bY (cF (aP A (aF (cs:=[jI m2.ins,m2.sv,m2.av,m2.ov]) A A A A A (aD 1 A 0 A)) ?_))))
 refine bI (cs':=#[jI m2.ins,m2.sv,m2.av,m2.ov]) (i:=7) (off:=0) (us:=[jI m2.ins,m2.sv,m2.av,m2.ov]) A A A A A A A (aA A (aA o1p (aA o2p (aA o3p bA)))) A A A (bR (bZ 2 A ?_))
 refine dP A (bB (z:=jI 0) (s:=1) (cs:=(mI [z2])) A Tryz.underlying26 A (by decide) A (by kernel_rfl) A) ?_
 intro g16
 refine cW (i:=9) (z:=jI 0) (bytes:=8) A A A A Tryz.underlying26 (by kernel_rfl) A A A A (aG 0 A) (cO _) (by first|omega|(simp;done)|(simp;omega)) (cH q.us ([z2])) (dL q.us ([z2])) (fun _=>A) ?_
 intro v17
 refine dJ 1 A (cK (bZ 1 A (aP A (dM A A A) (dJ 1 A ?_))))
 have hmk2:MapOk (q.us++[z2]) (n.fst+((i+1:Nat):Int)) m2.cnt:=by have h9:=(hmk.up c2).app (x:=z2) ⟨by omega,l2⟩;rwa [show n.fst+(i:Int)+1=n.fst+((i+1:Nat):Int) by omega] at h9
 exact cG (i+1) ⟨m2,ps2,q.us++([z2]),v17⟩ ⟨by omega,hG.trans g2.gr,by rw[mA (by omega) hIm,←hG.fst,show andO q.m.fst q.m.gs (mpL q.us (n.gs.getD i an0).a) (mpL q.us (n.gs.getD i an0).b)=_ from g2.es.pos (by omega)];rfl,hmk2,.inr hp2,⟨o1p,o2p,o3p⟩⟩ (by omega) (cT rfl) (.cons _ (.cons_cons _ (kE 4 rfl)))
 refine bR (aS A ?_)
 refine bM (dI ?_)
 refine aO (bF (cF (aP A (aF (cs:=[jI q.m.ins,q.m.sv,q.m.av,q.m.ov]) A A A A A (aD 3 A 0 A)) (aM 1 A ?_))))
 refine bI (cs':=#[jI q.m.ins,q.m.sv,q.m.av,q.m.ov]) (i:=1) (off:=0) (us:=[jI q.m.ins,q.m.sv,q.m.av,q.m.ov]) A A A A A A A (aA A (aA o1q (aA o2q (aA o3q bA)))) A A A (aU 2 A ?_)
 refine aV (cY (fun w hm=>(aG 4 A w hm).one) (fun ho1=>?_))
 have hfull:impO o.fst n.gs o.gs tos=some (q.m.gs,q.us):=by rw[←hIm,List.take_of_length_le (by omega)]
 have hmkF:MapOk q.us n.cnt q.m.cnt:=by have h9:=hmk;rwa [show n.fst+(i:Int)=n.cnt by omega] at h9
 refine aZ 5 [1,4,0] A A (by decide) ?_
 refine cB 2 A ?_
 exact eG (rs:=[.cell 10 28,.tmp 11,.tmp 12]) (vs:=[.agg #[jI q.m.ins,q.m.sv,q.m.av,q.m.ov],q.u,.bool true]) rfl ⟨⟨b3,0,[jI q.m.ins,q.m.sv,q.m.av,q.m.ov],rfl,rfl,by kernel_rfl,by kernel_rfl,aD 1 rfl 0 rfl⟩,rfl,rfl,trivial⟩ rfl (fun w hm=>⟨_,bigE [bigE q.ps,rI9 3 q.u q.us],rfl,⟨_,q.m,_,q.us,by rw[hfull];rfl,rfl,hNq.imp id (fun h9 w hw=>h9 w (aX hw cL)),fun w hw=>bT (aX hw (dK cL)),⟨o1q,o2q,o3q⟩,ho1,fun r e=>by rw[hfull] at e;cases e;exact⟨rfl,hG,hmkF⟩⟩,hm.sub (.cons_cons _ (.cons _ (.refl _)))⟩)
end Go.Proofs.YthmbefiklpoghaaGreat
