/- Texts of the law FnEqualMeans, part 1: what it uses. -/
import Derived.Test.YthmbefiklpoghaaGreatRows
import Derived.WalkKit
import Derived.WalkSpells
import Derived.WalkLawsBesides
import Derived.OpenShut
import Derived.Lib.Hide
import Derived.Below
import Derived.OwnWalk
import Derived.Deep.LoopGhost
import Derived.Laws.Tables
import Derived.Laws.Bits
import Derived.Great.BuildSlice
import Derived.Maps.AppendAt
import Derived.Orders
import Derived.Deep.QuietTactic
import Derived.BigQuiet
import Derived.Laws.CopyOwn
import Derived.Laws.Cover3
import Derived.Laws.StructEq
import Derived.Deep.Slices
import Derived.Lib.SmallJoins
import Derived.ChangeArms
import Derived.ChangeKeysEq
set_option linter.unusedVariables false
set_option linter.unusedSimpArgs false
set_option maxHeartbeats 4000000
set_option maxRecDepth 100000
namespace Go.Proofs.YthmbefiklpoghaaGreat
open Go.RowKit Go.ChangeShapes
open Go.RowKit
theorem A {α:Sort _}{a:α}:a=a:=rfl
theorem E {α:Sort _}{a:α}:a=a:=rfl
def inR (a b c:Int):Bool:=decide (b≤a)&&decide (a≤c)
theorem wI {a b c:Int}(h1:b≤a) (h2:a≤c):inR a b c=true:=by unfold inR;simp[h1,h2]
theorem wJ {a b c:Int}(h1:b≤a):inR a b c=decide (a≤c):=by unfold inR;simp[h1]
theorem sR {a b c:Int}(h:a<b∨c<a):inR a b c=false:=by unfold inR;simp;omega
theorem eK (a b c:Int):inR a b c=true↔b≤a∧a≤c:=by unfold inR;simp
theorem nO {a b:Bool}(h:a=b):Ending.returned (.bool a)=.returned (.bool b):=by rw[h]
theorem xY {k:IntKind}{a b:Int}(h:a=b):Ending.returned (.int k a)=.returned (.int k b):=by rw[h]
theorem Dz {z:List Int}{j:Nat}(h:j<z.length):z.getD j 0∈z:=by
  rw[List.getD_eq_getElem?_getD,List.getElem?_eq_getElem h];exact List.getElem_mem h
theorem vK (w:World) (o:Obj):(w.alloc o).heap.size=w.heap.size+1:=by show(w.heap.push o).size=_;simp
theorem kM {a b:World}(h:Below a.heap.size a b) (o:Obj):Below a.heap.size a (b.alloc o):=h.alloc h.size o
theorem eL (a b c:Int) (w:World) :
    Calls Tryz.prog 21 #[.int .i64 a,.int .i64 b,.int .i64 c] w fun e w'=>e=.returned (.bool (inR a b c))∧w=w':=by
  go_enter Tryz.func21,Tryz.ntmps21
  go_wp2
  all_goals go_ret
  · exact⟨nO (wJ (by assumption)).symm,rfl⟩
  · exact⟨nO (sR (Or.inl (by assumption))).symm,rfl⟩
theorem Bn (a b c:Int) (w:World) :
    Calls Tryz.prog 39 #[.int .i64 a,.int .i64 b,.int .i64 c] w fun e w'=>e=.returned (.bool (inR a b c))∧w=w':=by
  go_enter Tryz.func39,Tryz.ntmps39
  go_wp2
  all_goals go_ret
  · exact⟨nO (wJ (by assumption)).symm,rfl⟩
  · exact⟨nO (sR (Or.inl (by assumption))).symm,rfl⟩
structure HP where
  foot:Nat→Prop
  holds:World→Prop
def HP.Ok (p:HP):Prop:=∀w w':World,w.heap.size≤w'.heap.size→(∀b,p.foot b→w'.heap[b]? = w.heap[b]?)→p.holds w→p.holds w'
def HP.apart (p q:HP):Prop:=∀b,p.foot b→¬q.foot b
structure Mem (w0:World) (l:List HP) (w:World):Prop where
  bel:Below w0.heap.size w0 w
  holds:∀p∈l,p.holds w
  ok:∀p∈l,p.Ok
  new:∀p∈l,∀b,p.foot b→w0.heap.size≤b∧b<w.heap.size
  apart:l.Pairwise HP.apart
theorem Mem.refl (w:World):Mem w [] w:=⟨Below.refl _ _,by simp,by simp,by simp,.nil⟩
theorem Mem.step {w0 w w':World}{l:List HP}(h:Mem w0 l w) (hb:Below w.heap.size w w'):Mem w0 l w':=
  ⟨h.bel.trans (hb.mono h.bel.size),fun p hp=>h.ok p hp w w' hb.size (fun b hf=>hb.block b (h.new p hp b hf).2) (h.holds p hp),h.ok,
    fun p hp b hf=>⟨(h.new p hp b hf).1,Nat.lt_of_lt_of_le (h.new p hp b hf).2 hb.size⟩,h.apart⟩
theorem Mem.drawn {w0 w:World}{l:List HP}(h:Mem w0 l w) (n:Nat):Mem w0 l { w with drawn:=n }:=h.step ⟨rfl,rfl,rfl,Nat.le_refl _,fun _ _=>rfl⟩
theorem Mem.app {w0 w w':World}{l post:List HP}(h:Mem w0 l w) (hp:Mem w post w'):Mem w0 (post++l) w':=by
  have h1:=h.step hp.bel
  refine⟨h1.bel,fun p hm=>?_,fun p hm=>?_,fun p hm b hf=>?_,?_⟩
  · rcases List.mem_append.1 hm with hm | hm
    · exact hp.holds p hm
    · exact h1.holds p hm
  · rcases List.mem_append.1 hm with hm | hm
    · exact hp.ok p hm
    · exact h1.ok p hm
  · rcases List.mem_append.1 hm with hm | hm
    · exact⟨Nat.le_trans h.bel.size (hp.new p hm b hf).1,(hp.new p hm b hf).2⟩
    · exact h1.new p hm b hf
  · rw [List.pairwise_append]
    refine⟨hp.apart,h.apart,fun p hm q hq b hf hg=>?_⟩
    have:=(hp.new p hm b hf).1
    have:=(h.new q hq b hg).2
    omega
theorem Mem.sub {w0 w:World}{l l':List HP}(h:Mem w0 l w) (hs:l'.Sublist l):Mem w0 l' w:=
  ⟨h.bel,fun p hp=>h.holds p (hs.subset hp),fun p hp=>h.ok p (hs.subset hp),fun p hp=>h.new p (hs.subset hp),h.apart.sublist hs⟩
theorem HP.apart_symm {p q:HP}(h:p.apart q):q.apart p:=fun b hq hp=>h b hp hq
theorem Mem.perm {w0 w:World}{l l':List HP}(h:Mem w0 l w) (hs:l.Perm l'):Mem w0 l' w:=
  ⟨h.bel,fun p hp=>h.holds p (hs.mem_iff.2 hp),fun p hp=>h.ok p (hs.mem_iff.2 hp),fun p hp=>h.new p (hs.mem_iff.2 hp),(hs.pairwise_iff (fun h=>HP.apart_symm h)).1 h.apart⟩
theorem Mem.turn {w0 w w':World}{p p':HP}{l:List HP}(h:Mem w0 (p::l) w) (hos:w'.os=w.os) (htape:w'.tape=w.tape) (hout:w'.output=w.output) (hs:w.heap.size≤w'.heap.size)
    (hk:∀b,b<w.heap.size→¬p.foot b→w'.heap[b]? = w.heap[b]?) (ho:p'.Ok) (hn:∀b,p'.foot b→p.foot b∨w.heap.size≤b) (hl:∀b,p'.foot b→b<w'.heap.size) (hp:p'.holds w'):Mem w0 (p'::l) w':=by
  have hnew:=h.new p (by simp)
  have hap:=List.pairwise_cons.1 h.apart
  refine⟨⟨hos.trans h.bel.os,htape.trans h.bel.tape,hout.trans h.bel.output,Nat.le_trans h.bel.size hs,fun k hkk=>?_⟩,fun q hq=>?_,fun q hq=>?_,fun q hq b hf=>?_,?_⟩
  · rw [hk k (Nat.lt_of_lt_of_le hkk h.bel.size) (fun hf => by have := (hnew k hf).1; omega)]
    exact h.bel.block k hkk
  · rcases List.mem_cons.1 hq with rfl | hq
    · exact hp
    · exact h.ok q (List.mem_cons_of_mem _ hq) w w' hs (fun b hf=>hk b (h.new q (List.mem_cons_of_mem _ hq) b hf).2 (fun hpf=>hap.1 q hq b hpf hf)) (h.holds q (List.mem_cons_of_mem _ hq))
  · rcases List.mem_cons.1 hq with rfl | hq
    · exact ho
    · exact h.ok q (List.mem_cons_of_mem _ hq)
  · rcases List.mem_cons.1 hq with rfl | hq
    · refine ⟨?_, hl b hf⟩
      rcases hn b hf with h1|h1
      · exact(hnew b h1).1
      · exact Nat.le_trans h.bel.size h1
    · have := h.new q (List.mem_cons_of_mem _ hq) b hf
      exact⟨this.1,Nat.lt_of_lt_of_le this.2 hs⟩
  · refine List.pairwise_cons.2 ⟨fun q hq b hf hg => ?_, hap.2⟩
    rcases hn b hf with h1|h1
    · exact hap.1 q hq b h1 hg
    · have:=(h.new q (List.mem_cons_of_mem _ hq) b hg).2;omega
def lk:List (Nat×Value)→Nat→Option Value
  | [],_=>none
  | (d,v)::r,k=>bif Nat.beq d k then some v else lk r k
def ev (env:List (Nat×Value)):Operand→Option Value
  | .tmp t=>lk env t
  | .const v=>some v
  | .global g=>some (.pointer (some ⟨g,0,none⟩))
  | .func f=>some (.func (.func f) #[] #[])
def want (ops:Array Oper) (env:List (Nat×Value)) (g:Option (Nat×Bool)):Option Bool:=
  match g with
  | none=>some true
  | some (j,b)=>match ((ops[j]?).bind (·.dst)).bind (lk env) with
    | some (.bool c)=>some (c==b)
    | some (.tuple _)=>some false
    | _=>none
structure St (N:Nat) (w0:World) (l:List HP) (env:List (Nat×Value)) (a:Act) (w:World):Prop where
  mem:Mem w0 l w
  size:a.tmps.size=N
  defers:a.defers=[]
  env:∀d v,lk env d=some v→a.tmps[d]? = some v
theorem St.eval {N w0 l env a w}(h:St N w0 l env a w) {x:Operand}{v:Value}(hx:ev env x=some v):a.eval x=v:=by
  cases x with
  | tmp t=>have:=h.env t v hx;simp[Act.eval,this]
  | const v=>simpa [ev,Act.eval] using hx
  | global g=>simpa [ev,Act.eval] using hx
  | func f=>simpa [ev,Act.eval] using hx
theorem St.wanted {N w0 l env a w}(h:St N w0 l env a w) {ops:Array Oper}{o:Oper}{c:Bool}(hw:want ops env o.guard=some c):Region.wanted o (yielded ops a.tmps)=c:=by
  unfold want at hw
  unfold Region.wanted
  split at hw
  · rename_i hg;rw[hg];simpa using hw
  · rename_i j b hg
    rw[hg]
    simp only
    unfold yielded
    generalize (ops[j]?).bind (·.dst)=od at *
    cases od with
    | none=>simp at hw
    | some d=>
      simp only[Option.bind_some] at hw ⊢
      split at hw
      · rename_i c' hl
        rw[h.env d _ hl]
        simp only[Option.some.injEq] at hw
        subst hw
        simp
      · rename_i t hl
        rw[h.env d _ hl]
        simp only[Option.some.injEq] at hw
        subst hw
        simp
      · cases hw
theorem St.put {N w0 l env a w}(h:St N w0 l env a w) {d:Nat}{v:Value}(hd:Nat.blt d N=true) {l' w'}(hm:Mem w0 l' w'):St N w0 l' ((d,v)::env) (a.put (some d) v) w':=by
  have hd':d<a.tmps.size:=by rw[h.size];rw[Nat.blt_eq] at hd;exact hd
  refine⟨hm,?_,h.defers,fun k u hk=>?_⟩
  · simp[Act.put,h.size]
  · unfold lk at hk
    simp only[Act.put]
    by_cases e:d=k
    · subst e
      simp at hk
      subst hk
      simp[hd']
    · have : Nat.beq d k = false := by rw [← Bool.not_eq_true, Nat.beq_eq]; exact e
      rw[this] at hk
      rw[Array.getElem?_setIfInBounds_ne e]
      exact h.env k u hk
theorem St.to {N w0 l env a w}(h:St N w0 l env a w) {l' w'}(hm:Mem w0 l' w'):St N w0 l' env a w':=⟨hm,h.size,h.defers,h.env⟩
def sub (env' env:List (Nat×Value)):Prop:=∀p∈env',lk env p.1=some p.2
theorem yM {env:List (Nat×Value)}{d:Nat}{v:Value}(h:lk env d=some v):(d,v)∈env:=by
  induction env with
  | nil=>cases h
  | cons p r ih=>
    obtain⟨k,u⟩:=p
    unfold lk at h
    cases e:Nat.beq k d with
    | true=>rw[e] at h;simp at h;subst h;rw[Nat.eq_of_beq_eq_true e];exact List.mem_cons_self
    | false=>rw[e] at h;exact List.mem_cons_of_mem _ (ih h)
theorem aB (env:List (Nat×Value)):sub [] env:=fun p hp=>by cases hp
theorem sub_cons {env' env:List (Nat×Value)}{d:Nat}{v:Value}(h:lk env d=some v) (hs:sub env' env):sub ((d,v)::env') env:=fun p hp=>by
  rcases List.mem_cons.1 hp with rfl|hp
  · exact h
  · exact hs p hp
theorem sx {env' env:List (Nat×Value)}(d:Nat) {v:Value}(h:lk env d=some v) (hs:sub env' env):sub ((d,v)::env') env:=sub_cons h hs
theorem St.less {N w0 l env env' l' a w}(h:St N w0 l env a w) (hs:sub env' env) (hl:l'.Sublist l):St N w0 l' env' a w:=
  ⟨h.mem.sub hl,h.size,h.defers,fun d v hd=>h.env d v (hs _ (yM hd))⟩
abbrev Post:=Exit→Act→World→Prop
def HL (P:Program) (N:Nat) (ops:Array Oper) (w0:World) (l:List HP) (env:List (Nat×Value)) (rest:List Oper) (Q:Post):Prop:=∀a w,St N w0 l env a w→wpList P ops Q rest a w
def HC (P:Program) (N:Nat) (w0:World) (l:List HP) (env:List (Nat×Value)) (c:Code) (Q:Post):Prop:=∀a w,St N w0 l env a w→c.wp P Q a w
def HQ (N:Nat) (w0:World) (l:List HP) (env:List (Nat×Value)) (e:Exit) (Q:Post):Prop:=∀a w,St N w0 l env a w→Q e a w
section
variable {P:Program}{N:Nat}{w0:World}{l l':List HP}{env env':List (Nat×Value)}{Q:Post}{ops:Array Oper}{rest:List Oper}
theorem Fv (c:Code) (hs:sub env' env) (hl:l'.Sublist l) (h:HC P N w0 l' env' c Q):HC P N w0 l env c Q:=fun a w st=>h a w (st.less hs hl)
theorem nZ (hs:sub env' env) (hl:l'.Sublist l) (h:HL P N ops w0 l' env' rest Q):HL P N ops w0 l env rest Q:=fun a w st=>h a w (st.less hs hl)
theorem aC {x y:Code}(h:HC P N w0 l env x (Exit.then (y.wp P Q) Q)):HC P N w0 l env (.seq x y) Q:=fun a w st=>wp_seq (h a w st)
theorem fP (h:HQ N w0 l env .normal Q):HC P N w0 l env .skip Q:=fun a w st=>wp_skip (h a w st)
theorem bF {y:Code}(h:HC P N w0 l env y Q):HQ N w0 l env .normal (Exit.then (y.wp P Q) Q):=h
theorem aV (h:HQ N w0 l env .ret Q):HC P N w0 l env .ret Q:=fun a w st=>wp_ret (h a w st)
theorem bM {i:Nat}(h:HQ N w0 l env (.exit i) Q):HC P N w0 l env (.exit i) Q:=fun a w st=>wp_exit (h a w st)
theorem aL {K:Act→World→Prop}(h:HQ N w0 l env .ret Q):HQ N w0 l env .ret (Exit.then K Q):=h
theorem aQ {i:Nat}(h:HQ N w0 l env .ret Q):HQ N w0 l env .ret (Exit.inBlock i Q):=h
theorem gF {i:Nat}{K:Act→World→Prop}(h:HQ N w0 l env (.exit i) Q):HQ N w0 l env (.exit i) (Exit.then K Q):=h
theorem aO {i:Nat}(h:HQ N w0 l env .normal Q):HQ N w0 l env (.exit i) (Exit.inBlock i Q):=fun a w st=>by simp only[Exit.inBlock,if_true];exact h a w st
theorem mU {i j:Nat}(hij:Nat.beq i j=false) (h:HQ N w0 l env (.exit i) Q):HQ N w0 l env (.exit i) (Exit.inBlock j Q):=fun a w st=>by
  have:¬i=j:=fun e=>by subst e;simp at hij
  simp only[Exit.inBlock,if_neg this];exact h a w st
theorem cX {i:Nat}(h:HQ N w0 l env .normal Q):HQ N w0 l env .normal (Exit.inBlock i Q):=h
theorem bE {i:Nat}{c:Code}(h:HC P N w0 l env c (Exit.inBlock i Q)):HC P N w0 l env (.block i c) Q:=fun a w st=>wp_block (h a w st)
theorem aR {c:Operand}{x y:Code}(hc:ev env c=some (.bool true)) (h:HC P N w0 l env x Q):HC P N w0 l env (.cond c x y) Q:=fun a w st=>wp_cond_true (st.eval hc) (h a w st)
theorem aS {c:Operand}{x y:Code}(hc:ev env c=some (.bool false)) (h:HC P N w0 l env y Q):HC P N w0 l env (.cond c x y) Q:=fun a w st=>wp_cond_false (st.eval hc) (h a w st)
theorem fU {c:Operand}{x y:Code}{b:Bool}(hc:ev env c=some (.bool b)) (h1:b=true→HC P N w0 l env x Q) (h2:b=false→HC P N w0 l env y Q):HC P N w0 l env (.cond c x y) Q:=
  fun a w st=>wp_cond_split (st.eval hc) (fun e=>h1 e a w st) (fun e=>h2 e a w st)
theorem bJ {i:Nat}{os:List Oper}(h:HL P N os.toArray w0 l env os Q):HC P N w0 l env (.region i os.toArray false) Q:=fun a w st=>wp_region_lit (h a w st)
theorem dB (h:HQ N w0 l env .normal Q):HL P N ops w0 l env [] Q:=fun a w st=>wpList_nil (h a w st)
theorem pW {α:Type}{c:Code}(L:α→List HP) (E:α→List (Nat×Value)) (G:α→Prop) (m:α→Nat) (x0:α) (hG:G x0) (hs:sub (E x0) env) (hl:(L x0).Sublist l)
    (round:∀x,G x→HC P N w0 (L x) (E x) c (Exit.then (fun a' w'=>∃y,G y∧m y<m x∧St N w0 (L y) (E y) a' w') Q)):HC P N w0 l env (.loop c) Q:=by
  intro a w st
  refine wp_loop_ghost (fun n a w=>∃x,G x∧m x=n∧St N w0 (L x) (E x) a w) (m x0) ⟨x0,hG,rfl,st.less hs hl⟩ ?_
  rintro n a w ⟨x,hx,rfl,sx⟩
  refine wp_mono (round x hx a w sx) fun e a' w' h=>?_
  cases e with
  | normal=>obtain⟨y,hy,hlt,sy⟩:=h;exact⟨m y,hlt,y,hy,rfl,sy⟩
  | exit id=>exact h
  | goto l=>exact h
  | ret=>exact h
  | panic ch=>exact h
  | outgrown=>exact h
theorem Dt {o:Oper}{d:Nat}{v:Value}(hd:o.dst=some d) (hN:Nat.blt d N=true) (hw:want ops env o.guard=some true) (hrun:∀a w,St N w0 l env a w→(execOp a.eval o).run P w=.ok (.value v) w)
    (k:HL P N ops w0 l ((d,v)::env) rest Q):HL P N ops w0 l env (o::rest) Q:=fun a w st=>wpList_step fun K hK=>by
  rw[if_pos (st.wanted hw)]
  unfold Oper.wp
  rw[hrun a w st,Oper.upon_value,hd]
  exact hK _ _ (k _ _ (st.put hN st.mem))
theorem Fu {o:Oper}{d:Nat}(hd:o.dst=some d) (hN:Nat.blt d N=true) (hw:want ops env o.guard=some false) (k:HL P N ops w0 l ((d,undef)::env) rest Q):HL P N ops w0 l env (o::rest) Q:=fun a w st=>wpList_step fun K hK=>by
  rw[if_neg (by rw[st.wanted hw];decide),hd]
  exact hK _ _ (k _ _ (st.put hN st.mem))
theorem mC {o:Oper}(hd:o.dst=none) (hw:want ops env o.guard=some true)
    (hrun:∀a w,St N w0 l env a w→∃w',(execOp a.eval o).run P w=.ok .skip w'∧Mem w0 l' w') (k:HL P N ops w0 l' env rest Q):HL P N ops w0 l env (o::rest) Q:=fun a w st=>wpList_step fun K hK=>by
  rw[if_pos (st.wanted hw)]
  unfold Oper.wp
  obtain⟨w',hr,hm⟩:=hrun a w st
  rw[hr,Oper.upon_skip,hd]
  exact hK _ _ (k _ _ (st.to hm))
theorem Ac {o:Oper}{d:Nat}{f:FuncId}{xs:Array Operand}{vs:Array Value}(hd:o.dst=some d) (hN:Nat.blt d N=true) (hw:want ops env o.guard=some true)
    (ho:∀a:Act,execOp a.eval o=callFunc f (#[]++xs.map a.eval ++ #[])) (hvs:∀a w,St N w0 l env a w→#[]++xs.map a.eval ++ #[]=vs)
    (hf:∀w,(callFunc f vs).run P w=.ok (.enter f vs) w)
    (hc:∀w,Mem w0 l w→Calls P f vs w fun e w'=>∃v l',e=.returned v∧Mem w0 l' w'∧HL P N ops w0 l' ((d,v)::env) rest Q):HL P N ops w0 l env (o::rest) Q:=fun a w st=>wpList_step fun K hK=>by
  rw[if_pos (st.wanted hw)]
  unfold Oper.wp
  rw[ho,hvs a w st,hf,Oper.upon_enter]
  refine(hc w st.mem).mono fun e w' h=>?_
  obtain⟨v,l',rfl,hm,k⟩:=h
  simp only[hd]
  exact hK _ _ (k _ _ (st.put hN hm))
end
def boxE (b:Nat) (cs:Array Value) (t:TypeId):HP:=⟨fun k=>k=b,fun w=>w.heap[b]? = some (.cells cs t (0,0))⟩
def rowE (e size:Nat) (v:Value) (n:Nat) (xs:List Value):HP:=⟨fun k=>v.ownBlock=some k,fun w=>w.ownsRow 0 e size v n xs⟩
theorem Ap (b cs t):(boxE b cs t).Ok:=fun w w' _ hb h=>by show w'.heap[b]? = _;rw[hb b rfl];exact h
theorem pO (e size v n xs):(rowE e size v n xs).Ok:=fun w w' hs hb h=>by
  refine⟨h.1,?_⟩
  rcases h.2 with hn|⟨g,cap,cur,rfl,hB,hgg,rest⟩
  · exact .inl hn
  · exact .inr ⟨g,cap,cur,rfl,hB,by rw[hb g rfl];exact hgg,rest⟩
theorem Dd {w:World}{B B' E size n:Nat}{v:Value}{xs:List Value}(h:w.ownsRow B E size v n xs) (hB:∀k,v.ownBlock=some k→B'≤k):w.ownsRow B' E size v n xs:=by
  refine⟨h.1,?_⟩
  rcases h.2 with hn|⟨g,cap,cur,rfl,h1,rest⟩
  · exact .inl hn
  · exact .inr ⟨g,cap,cur,rfl,hB g rfl,rest⟩
theorem jH {w:World}{b o:Nat}{cs:Array Value}{t:TypeId}{fr:Nat×Nat}(h:w.heap[b]? = some (.cells cs t fr)):w.cell? ⟨b,o,none⟩=cs[o]?:=by simp[World.cell?,h]
theorem lR {w:World}{b o:Nat}{cs:Array Value}{t:TypeId}(h:w.heap[b]? = some (.cells cs t (0,0))):w.frozen? ⟨b,o,none⟩=false:=by simp[World.frozen?,h]
theorem bX {l:List HP}{i:Nat}{p:HP}(h:l[i]? = some p):p∈l:=List.mem_of_getElem? h
theorem aH {w0:World}{l:List HP}{b:Nat}{cs:Array Value}{t:TypeId}(i:Nat) (h:l[i]? = some (boxE b cs t)) {o:Nat}{v:Value}(hc:cs[o]? = some v):∀w,Mem w0 l w→w.cell? ⟨b,o,none⟩=some v:=fun w hm=>
  (jH (hm.holds _ (bX h))).trans hc
theorem Mem.alloc {w0 w:World}{l:List HP}(h:Mem w0 l w) (cs:Array Value) (t:TypeId):Mem w0 (boxE w.heap.size cs t::l) (w.alloc (.cells cs t)):=by
  have hb:Below w.heap.size w (w.alloc (.cells cs t)):=kM (Below.refl _ _) _
  have:Mem w [boxE w.heap.size cs t] (w.alloc (.cells cs t)):=by
    refine⟨hb,?_,?_,?_,by simp⟩
    · intro p hp;rw[List.mem_singleton] at hp;subst hp;exact heap_alloc_new w _
    · intro p hp;rw[List.mem_singleton] at hp;subst hp;exact Ap _ _ _
    · intro p hp b hf;rw[List.mem_singleton] at hp;subst hp;cases hf;rw[vK];omega
  exact h.app this
theorem Mem.newRow {w0 w w':World}{l:List HP}{e size n:Nat}{v:Value}{xs:List Value}(h:Mem w0 l w) (ho:w'.ownsRow w.heap.size e size v n xs) (hb:Below w.heap.size w w'):Mem w0 (rowE e size v n xs::l) w':=by
  have:Mem w [rowE e size v n xs] w':=by
    refine⟨hb,?_,?_,?_,by simp⟩
    · intro p hp;rw[List.mem_singleton] at hp;subst hp;exact Dd ho (fun _ _=>Nat.zero_le _)
    · intro p hp;rw[List.mem_singleton] at hp;subst hp;exact pO _ _ _ _ _
    · intro p hp b hf;rw[List.mem_singleton] at hp;subst hp;exact ho.lt b hf
  exact h.app this
theorem qO {l:List HP}{i:Nat}{p p':HP}(hi:l[i]? = some p):∃r,l.Perm (p::r)∧(p'::r).Perm (l.set i p'):=by
  induction l generalizing i with
  | nil=>simp at hi
  | cons q l ih=>
    cases i with
    | zero=>
      simp at hi
      subst hi
      exact⟨l,.refl _,.refl _⟩
    | succ i=>
      obtain⟨r,h1,h2⟩:=ih (i:=i) (by simpa using hi)
      exact⟨q::r,(h1.cons q).trans (.swap _ _ _),(List.Perm.swap _ _ _).trans (h2.cons q)⟩
theorem Mem.turnAt {w0 w w':World}{p p':HP}{l:List HP}{i:Nat}(hi:l[i]? = some p) (h:Mem w0 l w) (hos:w'.os=w.os) (htape:w'.tape=w.tape) (hout:w'.output=w.output) (hs:w.heap.size≤w'.heap.size)
    (hk:∀b,b<w.heap.size→¬p.foot b→w'.heap[b]? = w.heap[b]?) (ho:p'.Ok) (hn:∀b,p'.foot b→p.foot b∨w.heap.size≤b) (hl:∀b,p'.foot b→b<w'.heap.size) (hp:p'.holds w'):Mem w0 (l.set i p') w':=by
  obtain⟨r,h1,h2⟩:=qO (p':=p') hi
  exact((h.perm h1).turn hos htape hout hs hk ho hn hl hp).perm h2
theorem Mem.setBox {w0 w:World}{l:List HP}{b:Nat}{cs:Array Value}{t:TypeId}{i:Nat}(hi:l[i]? = some (boxE b cs t)) (h:Mem w0 l w) (o:Nat) (v:Value):Mem w0 (l.set i (boxE b (cs.setIfInBounds o v) t)) (w.setCell ⟨b,o,none⟩ v):=by
  have hb:w.heap[b]? = some (.cells cs t (0,0)):=h.holds _ (bX hi)
  refine h.turnAt hi rfl rfl rfl (by simp[World.setCell]) (fun k _ hf=>Below.heap_setCell w _ v k (fun e=>hf e)) (Ap _ _ _) (fun k hk=>.inl hk) (fun k hk=>?_) ?_
  · cases hk;simp only[World.setCell,Array.size_modify];exact(h.new _ (bX hi) b rfl).2
  · show (w.setCell ⟨b, o, none⟩ v).heap[b]? = _
    exact heap_setCell_same w b o cs t v hb
theorem Mem.setRow {w0 w:World}{l:List HP}{e size n g cap:Nat}{xs:List Value}{i:Nat}(hi:l[i]? = some (rowE e size (.slice (some ⟨g,0,none⟩) n cap) n xs)) (h:Mem w0 l w) (j:Nat) (u:Value):Mem w0 (l.set i (rowE e size (.slice (some ⟨g,0,none⟩) n cap) n (xs.set j u))) (w.setCell ⟨g,j,none⟩ u):=by
  have hb:w.ownsRow 0 e size (.slice (some ⟨g,0,none⟩) n cap) n xs:=h.holds _ (bX hi)
  have hst:=hb.stored j u
  refine h.turnAt hi rfl rfl rfl (by simp[World.setCell]) (fun k _ hf=>Below.heap_setCell w _ u k (fun e=>hf (by subst e;rfl))) (pO _ _ _ _ _) (fun k hk=>.inl hk) (fun k hk=>?_) hst.1
  have e:g=k:=by simpa [rowE,Value.ownBlock] using hk
  subst e
  have:=(h.new _ (bX hi) g rfl).2
  simpa [World.setCell] using this
def RdsW (w:World) (v:Value) (s n:Nat) (cs:List Value):Prop:=
  ∃a cap,v=.slice a n cap∧cs.length=n*s∧(n≤9223372036854775807∧n≤cap)∧(0<n→∃b off,a=some ⟨b,off,none⟩∧∀j u,cs[j]? = some u→w.cell? ⟨b,off+j,none⟩=some u)
def Rd (w0:World) (l:List HP) (v:Value) (s n:Nat) (cs:List Value):Prop:=∀w,Mem w0 l w→RdsW w v s n cs
theorem bT {w:World}{B e size n:Nat}{v:Value}{xs:List Value}(ho:w.ownsRow B e size v n xs):RdsW w v size n xs:=by
  have h1:=ho.1
  rcases ho.2 with⟨rfl,rfl⟩|⟨g,cap,cur,rfl,hB,hgg,hn,hcap,hsz,htk⟩
  · exact⟨_,_,rfl,h1,⟨by omega,by omega⟩,fun h=>absurd h (by omega)⟩
  · refine ⟨_, _, rfl, h1, ⟨by unfold maxLen at hcap; omega, hn⟩, fun _ => ⟨g, 0, rfl, fun j u hj => ?_⟩⟩
    have hlt:j<n*size:=by rw[←h1];exact(List.getElem?_eq_some_iff.1 hj).1
    rw[Nat.zero_add,World.ownsRow.cellAt ⟨h1,.inr ⟨g,cap,cur,rfl,hB,hgg,hn,hcap,hsz,htk⟩⟩ j hlt];exact hj
theorem aG {w0:World}{l:List HP}{e size n:Nat}{v:Value}{xs:List Value}(i:Nat) (hi:l[i]? = some (rowE e size v n xs)):Rd w0 l v size n xs:=fun w hm=>bT (hm.holds _ (bX hi))
theorem RdsW.below {w w':World}{v:Value}{s n:Nat}{cs:List Value}(h:RdsW w v s n cs) (hb:Below w.heap.size w w'):RdsW w' v s n cs:=by
  obtain⟨a,cap,rfl,h1,h2,h3⟩:=h
  refine⟨a,cap,rfl,h1,h2,fun hp=>?_⟩
  obtain⟨b,off,rfl,hc⟩:=h3 hp
  exact⟨b,off,rfl,fun j u hj=>(hb.cell (p:=⟨b,off+j,none⟩) (World.block_lt_of_cell? _ _ (hc j u hj))).trans (hc j u hj)⟩
theorem aE {w0:World}{v:Value}{s n:Nat}{cs:List Value}(h:RdsW w0 v s n cs) {l:List HP}:Rd w0 l v s n cs:=fun w hm=>h.below hm.bel
theorem dN {w0:World}{l:List HP}{a:Option Addr}{cap s:Nat}:Rd w0 l (.slice a 0 cap) s 0 []:=fun w hm=>⟨_,_,rfl,by simp,⟨by omega,by omega⟩,fun h=>absurd h (by omega)⟩
def elP (v:Value) (o:Nat):Value:=match v with | .slice (some ⟨b,off,none⟩) _ _=>.pointer (some ⟨b,off+o,none⟩)|_=>undef
theorem gQ {P:Program}{e s:Nat}(h:(P.info? e).map (·.size)=some s) (w:World):(sizeOf e).run P w=.ok s w:=by
  obtain⟨i,hi,rfl⟩:=Option.map_eq_some_iff.1 h
  simp[sizeOf,typeInfo,hi]
def aggB (P:Program) (t:TypeId):Option Bool:=match P.underlying t with|some (.struct _)=>some true|some (.array _ _)=>some true|some _=>some false|none=>none
theorem nN {P:Program}{t:TypeId}{c:Bool}(h:aggB P t=some c) (w:World):(isAgg t).run P w=.ok c w:=by
  unfold aggB at h
  unfold isAgg
  cases hu:P.underlying t with
  | none=>rw[hu] at h;cases h
  | some d=>rw[hu] at h;cases d<;>simp_all [run_underlying hu]
def fieldOff (P:Program) (t:TypeId) (f:Nat):Option Nat:=match P.underlying t with
  | some (.struct fs)=>match fs[f]? with
    | some fd=>match P.info? fd.type with|some i=>bif Nat.beq i.size 0 then none else some fd.offset|none=>none
    | none=>none
  | _=>none
theorem jK (b o k:Nat):(⟨b,o,none⟩:Addr).add k=⟨b,o+k,none⟩:=by unfold Addr.add;split<;>simp_all
theorem sH {P:Program}{t:TypeId}{f off:Nat}(h:fieldOff P t f=some off) (b o:Nat) (w:World):(Instr.fieldAt t (.pointer (some ⟨b,o,none⟩)) f).run P w=.ok (.pointer (some ⟨b,o+off,none⟩)) w:=by
  unfold fieldOff at h
  cases hu:P.underlying t with
  | none=>rw[hu] at h;cases h
  | some d=>
    rw[hu] at h
    cases d<;>simp only at h<;>try (cases h;done)
    rename_i fs
    cases hf:fs[f]? with
    | none=>rw[hf] at h;cases h
    | some fd=>
      rw[hf] at h
      simp only at h
      cases hi:P.info? fd.type with
      | none=>rw[hi] at h;cases h
      | some i=>
        rw[hi] at h
        simp only at h
        cases hz:Nat.beq i.size 0 with
        | true=>rw[hz] at h;cases h
        | false=>
          rw[hz] at h
          simp at h
          subst h
          have hne:¬i.size=0:=fun e=>by rw[e] at hz;cases hz
          have hs:(sizeOf fd.type).run P w=.ok i.size w:=gQ (by rw[hi];rfl) w
          simp[Instr.fieldAt,run_underlying hu,hf,Instr.sureAddr,fieldPlace,hs,hne,jK]
section
variable {P:Program}{N:Nat}{w0:World}{l l':List HP}{env env':List (Nat×Value)}{Q:Post}{ops:Array Oper}{rest:List Oper}{o:Oper}{d:Nat}
def evOp (env:List (Nat×Value)):Op→Option Value
  | .move x=>ev env x
  | .assign x=>ev env x
  | .pick c a b=>match ev env c with|some (.bool true)=>ev env a|some (.bool false)=>ev env b|_=>none
  | .unOp .not _ x=>match ev env x with|some (.bool b)=>some (.bool !b)|_=>none
  | .extract t i=>match ev env t with|some (.tuple vs)=>vs[i]? | _=>none
  | _=>none
def RunV (P:Program) (N:Nat) (w0:World) (l:List HP) (env:List (Nat×Value)) (o:Oper) (v:Value):Prop:=∀a w,St N w0 l env a w→(execOp a.eval o).run P w=.ok (.value v) w
theorem mK {v:Value}(hd:o.dst=some d) (hN:Nat.blt d N=true) (hw:want ops env o.guard=some true) (h:RunV P N w0 l env o v) (k:HL P N ops w0 l ((d,v)::env) rest Q):HL P N ops w0 l env (o::rest) Q:=Dt hd hN hw h k
theorem Cw {a w}(st:St N w0 l env a w) {v:Value}(h:evOp env o.op=some v):(execOp a.eval o).run P w=.ok (.value v) w:=by
  obtain⟨dst,op,ty,pos,af,gd⟩:=o
  simp only at h
  cases op<;>simp only[evOp] at h<;>try (cases h;done)
  case move x=>simp[execOp,st.eval h]
  case assign x=>simp[execOp,st.eval h]
  case pick c x y=>
    split at h
    · rename_i hc;simp[execOp,st.eval hc,asBool,st.eval h]
    · rename_i hc;simp[execOp,st.eval hc,asBool,st.eval h]
    · cases h
  case unOp u t x=>
    cases u<;>simp only[evOp] at h<;>try (cases h;done)
    split at h
    · rename_i hc;cases h;simp[execOp,st.eval hc,Op.unary]
    · cases h
  case extract t i=>
    split at h
    · rename_i vs hc;simp[execOp,st.eval hc,Instr.extract,h]
    · cases h
theorem aK {v:Value}(h:evOp env o.op=some v):RunV P N w0 l env o (v):=fun a w st=>Cw st h
theorem oJ {a w}(st:St N w0 l env a w) {op:BinOp}{t t':TypeId}{x y:Operand}{m n r:Int}(ho:o.op=.binOp op t x y t') (hx:ev env x=some (.int .i64 m)) (hy:ev env y=some (.int .i64 n))
    (hop:(op=.add∧IntKind.i64.wrap (m+n)=r)∨(op=.sub∧IntKind.i64.wrap (m-n)=r)∨(op=.mul∧IntKind.i64.wrap (m*n)=r)):(execOp a.eval o).run P w=.ok (.value (.int .i64 r)) w:=by
  rcases hop with⟨rfl,rfl⟩|⟨rfl,rfl⟩|⟨rfl,rfl⟩<;>simp[execOp,ho,st.eval hx,st.eval hy,eqGuard,binOp,Op.intArith]
theorem oI {t t':TypeId}{x y:Operand}{m n:Int}(ho:o.op=.binOp .add t x y t') (hx:ev env x=some (.int .i64 m)) (hy:ev env y=some (.int .i64 n))
    (hr : -9223372036854775808≤m+n∧m+n≤9223372036854775807):RunV P N w0 l env o (.int .i64 (m+n)):=fun a w st=>oJ st ho hx hy (.inl ⟨rfl,IntWalk.i64_in _ hr⟩)
theorem rv_sub {t t':TypeId}{x y:Operand}{m n:Int}(ho:o.op=.binOp .sub t x y t') (hx:ev env x=some (.int .i64 m)) (hy:ev env y=some (.int .i64 n))
    (hr : -9223372036854775808≤m-n∧m-n≤9223372036854775807):RunV P N w0 l env o (.int .i64 (m-n)):=fun a w st=>oJ st ho hx hy (.inr (.inl ⟨rfl,IntWalk.i64_in _ hr⟩))
theorem fO {t t':TypeId}{x y:Operand}{m n:Int}(ho:o.op=.binOp .mul t x y t') (hx:ev env x=some (.int .i64 m)) (hy:ev env y=some (.int .i64 n))
    (hr : -9223372036854775808≤m*n∧m*n≤9223372036854775807):RunV P N w0 l env o (.int .i64 (m*n)):=fun a w st=>oJ st ho hx hy (.inr (.inr ⟨rfl,IntWalk.i64_in _ hr⟩))
theorem fF {t t':TypeId}{x y:Operand}{m n:Int}(ho:o.op=.binOp .quo t x y t') (hx:ev env x=some (.int .i64 m)) (hy:ev env y=some (.int .i64 n))
    (hr:0≤m∧m≤9223372036854775807∧1≤n):RunV P N w0 l env o (.int .i64 (m / n)):=fun a w st=>by
    have hne:¬n=0:=by omega
    have e:=IntWalk.i64_quo m n hr
    simp[execOp,ho,st.eval hx,st.eval hy,eqGuard,binOp,Op.intDiv,hne,e]
theorem xW {t t':TypeId}{x y:Operand}{m n:Int}(ho:o.op=.binOp .rem t x y t') (hx:ev env x=some (.int .i64 m)) (hy:ev env y=some (.int .i64 n))
    (hr:0≤m∧n≠0):RunV P N w0 l env o (.int .i64 (m % n)):=fun a w st=>by
    have hne:¬n=0:=hr.2
    have e:=IntWalk.rem_in m n hr.1
    simp[execOp,ho,st.eval hx,st.eval hy,eqGuard,binOp,Op.intDiv,hne,e]
theorem iG {t:TypeId}{x:Operand}{m:Int}(ho:o.op=.unOp .neg t x) (hx:ev env x=some (.int .i64 m))
    (hr : -9223372036854775807≤m) (hr2:m≤9223372036854775807):RunV P N w0 l env o (.int .i64 (-m)):=fun a w st=>by
    have e:IntKind.i64.wrap (0-m) = -m:=by rw[Int.zero_sub];exact IntWalk.i64_in _ (by omega)
    simp only[Int.zero_sub] at e
    simp[execOp,ho,st.eval hx,Op.unary,Op.intArith,e]
theorem cP {op:BinOp}{t t':TypeId}{x y:Operand}{m n:Int}(ho:o.op=.binOp op t x y t') (hop:op=.and∨op=.or∨op=.xor∨op=.andNot)
    (hx:ev env x=some (.int .i64 m)) (hy:ev env y=some (.int .i64 n)) {r:Int}(hr:bits op .i64 m n=r):RunV P N w0 l env o (.int .i64 r):=fun a w st=>by
    subst hr
    rcases hop with rfl|rfl|rfl|rfl<;>(simp[execOp,ho,st.eval hx,st.eval hy,eqGuard,binOp];rfl)
theorem iO {t t':TypeId}{x y:Operand}{kk:IntKind}{m n:Int}(ho:o.op=.binOp .shr t x y t') (hx:ev env x=some (.int .i64 m)) (hy:ev env y=some (.int kk n))
    (hn:0≤n∧n≤64):RunV P N w0 l env o (.int .i64 (m / 2 ^ n.toNat)):=fun a w st=>by
    have h1:¬n<0:=by omega
    have h2:min n.toNat IntKind.i64.bits=n.toNat:=by have:IntKind.i64.bits=64:=rfl;omega
    have h3:m.fdiv (2 ^ n.toNat)=m / 2 ^ n.toNat:=Int.fdiv_eq_ediv_of_nonneg _ (Int.pow_nonneg (by decide))
    simp[execOp,ho,st.eval hx,st.eval hy,eqGuard,binOp,Op.shift,h1,h2,h3]
def cmpOp:BinOp→Int→Int→Option Bool
  | .lss,m,n=>some (decide (m<n))
  | .leq,m,n=>some (decide (m≤n))
  | .gtr,m,n=>some (decide (n<m))
  | .geq,m,n=>some (decide (n≤m))
  | .eql,m,n=>some (m==n)
  | .neq,m,n=>some (m != n)
  | _,_,_=>none
theorem dC {op:BinOp}{t t':TypeId}{x y:Operand}{m n:Int}{c:Bool}{kk:IntKind}(ho:o.op=.binOp op t x y t') (hx:ev env x=some (.int kk m)) (hy:ev env y=some (.int kk n))
    (hc:cmpOp op m n=some c):RunV P N w0 l env o (.bool c):=fun a w st=>by
    cases op<;>simp only[cmpOp,Option.some.injEq] at hc<;>(first|(cases hc;done)|(subst hc;simp[execOp,ho,st.eval hx,st.eval hy,eqGuard,binOp,Op.intCmp,GT.gt,GE.ge]))
theorem bW {c:Bool}(h1:c=true→HL P N ops w0 l ((d,.bool true)::env) rest Q) (h2:c=false→HL P N ops w0 l ((d,.bool false)::env) rest Q):HL P N ops w0 l ((d,.bool c)::env) rest Q:=by
  cases c
  · exact h2 rfl
  · exact h1 rfl
theorem bQ {t t':TypeId}{x y:Operand}{m n:Int}{kk:IntKind}(hd:o.dst=some d) (hN:Nat.blt d N=true) (hw:want ops env o.guard=some true) (ho:o.op=.binOp .lss t x y t') (hx:ev env x=some (.int kk m)) (hy:ev env y=some (.int kk n))
    (h1:m<n→HL P N ops w0 l ((d,.bool true)::env) rest Q) (h2:n≤m→HL P N ops w0 l ((d,.bool false)::env) rest Q):HL P N ops w0 l env (o::rest) Q:=
  mK hd hN hw (dC ho hx hy rfl) (bW (fun h=>h1 (of_decide_eq_true h)) (fun h=>h2 (by have:=of_decide_eq_false h;omega)))
theorem qY {t t':TypeId}{x y:Operand}{m n:Int}{kk:IntKind}(hd:o.dst=some d) (hN:Nat.blt d N=true) (hw:want ops env o.guard=some true) (ho:o.op=.binOp .leq t x y t') (hx:ev env x=some (.int kk m)) (hy:ev env y=some (.int kk n))
    (h1:m≤n→HL P N ops w0 l ((d,.bool true)::env) rest Q) (h2:n<m→HL P N ops w0 l ((d,.bool false)::env) rest Q):HL P N ops w0 l env (o::rest) Q:=
  mK hd hN hw (dC ho hx hy rfl) (bW (fun h=>h1 (of_decide_eq_true h)) (fun h=>h2 (by have:=of_decide_eq_false h;omega)))
theorem fJ {t t':TypeId}{x y:Operand}{m n:Int}{kk:IntKind}(hd:o.dst=some d) (hN:Nat.blt d N=true) (hw:want ops env o.guard=some true) (ho:o.op=.binOp .gtr t x y t') (hx:ev env x=some (.int kk m)) (hy:ev env y=some (.int kk n))
    (h1:n<m→HL P N ops w0 l ((d,.bool true)::env) rest Q) (h2:m≤n→HL P N ops w0 l ((d,.bool false)::env) rest Q):HL P N ops w0 l env (o::rest) Q:=
  mK hd hN hw (dC ho hx hy rfl) (bW (fun h=>h1 (of_decide_eq_true h)) (fun h=>h2 (by have:=of_decide_eq_false h;omega)))
theorem gO {t t':TypeId}{x y:Operand}{m n:Int}{kk:IntKind}(hd:o.dst=some d) (hN:Nat.blt d N=true) (hw:want ops env o.guard=some true) (ho:o.op=.binOp .geq t x y t') (hx:ev env x=some (.int kk m)) (hy:ev env y=some (.int kk n))
    (h1:n≤m→HL P N ops w0 l ((d,.bool true)::env) rest Q) (h2:m<n→HL P N ops w0 l ((d,.bool false)::env) rest Q):HL P N ops w0 l env (o::rest) Q:=
  mK hd hN hw (dC ho hx hy rfl) (bW (fun h=>h1 (of_decide_eq_true h)) (fun h=>h2 (by have:=of_decide_eq_false h;omega)))
theorem cM {t t':TypeId}{x y:Operand}{m n:Int}{kk:IntKind}(hd:o.dst=some d) (hN:Nat.blt d N=true) (hw:want ops env o.guard=some true) (ho:o.op=.binOp .eql t x y t') (hx:ev env x=some (.int kk m)) (hy:ev env y=some (.int kk n))
    (h1:m=n→HL P N ops w0 l ((d,.bool true)::env) rest Q) (h2:m≠n→HL P N ops w0 l ((d,.bool false)::env) rest Q):HL P N ops w0 l env (o::rest) Q:=
  mK hd hN hw (dC ho hx hy rfl) (bW (fun h=>h1 (beq_iff_eq.1 h)) (fun h=>h2 (beq_eq_false_iff_ne.1 h)))
theorem hQ {t t':TypeId}{x y:Operand}{m n:Int}{kk:IntKind}(hd:o.dst=some d) (hN:Nat.blt d N=true) (hw:want ops env o.guard=some true) (ho:o.op=.binOp .neq t x y t') (hx:ev env x=some (.int kk m)) (hy:ev env y=some (.int kk n))
    (h1:m≠n→HL P N ops w0 l ((d,.bool true)::env) rest Q) (h2:m=n→HL P N ops w0 l ((d,.bool false)::env) rest Q):HL P N ops w0 l env (o::rest) Q:=
  mK hd hN hw (dC ho hx hy rfl) (bW (fun h=>h1 (bne_iff_ne.1 h)) (fun h=>h2 (by simpa using h)))
end
section
variable {P:Program}{N:Nat}{w0:World}{l l':List HP}{env env':List (Nat×Value)}{Q:Post}{ops:Array Oper}{rest:List Oper}{o:Oper}{d:Nat}
def RunQ (P:Program) (N:Nat) (w0:World) (l:List HP) (env:List (Nat×Value)) (o:Oper) (R:Value→List HP→Prop):Prop:=
  ∀a w,St N w0 l env a w→∀(Q:Post) (K:Act→World→Prop),(∀v post w',R v post→Mem w post w'→K (a.put o.dst v) w')→o.wp P a w K Q
theorem aT {v:Value}(h:RunV P N w0 l env o v):RunQ P N w0 l env o (fun v' post=>v'=v∧post=[]):=fun a w st Q K hK=>by
  unfold Oper.wp
  rw[h a w st,Oper.upon_value]
  exact hK _ _ _ ⟨rfl,rfl⟩ (Mem.refl w)
theorem cD {R R':Value→List HP→Prop}(h:RunQ P N w0 l env o R) (hr:∀v post,R v post→R' v post):RunQ P N w0 l env o R':=fun a w st Q K hK=>h a w st Q K fun v post w' hv hm=>hK v post w' (hr _ _ hv) hm
theorem aW {R:Value→List HP→Prop}(hs:sub env' env) (hl:l'.Sublist l) (h:RunQ P N w0 l' env' o R):RunQ P N w0 l env o R:=fun a w st=>h a w (st.less hs hl)
theorem eB {R:Value→List HP→Prop}(hd:o.dst=some d) (hN:Nat.blt d N=true) (hw:want ops env o.guard=some true) (h:RunQ P N w0 l env o R) (k:∀v post,R v post→HL P N ops w0 (post++l) ((d,v)::env) rest Q):HL P N ops w0 l env (o::rest) Q:=fun a w st=>wpList_step fun K hK=>by
  rw[if_pos (st.wanted hw)]
  refine h a w st Q K fun v post w' hv hm=>?_
  rw[hd]
  exact hK _ _ (k v post hv _ _ (st.put hN (st.mem.app hm)))
theorem vP {R:Value→List HP→Prop}(h:∀a w,St N w0 l env a w→∃v post w',(execOp a.eval o).run P w=.ok (.value v) w'∧R v post∧Mem w post w'):RunQ P N w0 l env o R:=fun a w st Q K hK=>by
  unfold Oper.wp
  obtain⟨v,post,w',hr,hv,hm⟩:=h a w st
  rw[hr,Oper.upon_value]
  exact hK _ _ _ hv hm
theorem Aa (w:World) (cs:Array Value) (t:TypeId):Mem w [boxE w.heap.size cs t] (w.alloc (.cells cs t)):=(Mem.refl w).alloc cs t
theorem Cu {t:TypeId}{x:Operand}{f b off k0:Nat}(ho:o.op=.fieldAddr t x f) (hf:fieldOff P t f=some k0) (hx:ev env x=some (.pointer (some ⟨b,off,none⟩))):RunV P N w0 l env o (.pointer (some ⟨b,off+k0,none⟩)):=
  fun a w st=>by simp[execOp,ho,st.eval hx,sH hf]
theorem dV {x:Operand}{ad:Addr}(ho:o.op=.nilCheck x) (hx:ev env x=some (.pointer (some ad))):RunV P N w0 l env o (.pointer (some ad)):=
  fun a w st=>by simp[execOp,ho,st.eval hx]
theorem Ct {t e s n:Nat}{cs:List Value}{v:Value}{x i:Operand}{m:Int}{kk:IntKind}(ho:o.op=.indexAddr t x i) (hu:P.underlying t=some (.slice e)) (hs:(P.info? e).map (·.size)=some s)
    (hx:ev env x=some v) (hi:ev env i=some (.int kk m)) (hr:Rd w0 l v s n cs) (h0:0≤m) (h1:m<n):RunV P N w0 l env o (elP v (m.toNat*s)):=fun a w st=>by
  obtain⟨ad,cap,rfl,hl,hn,hc0⟩:=hr w st.mem
  obtain⟨b,off,rfl,hc⟩:=hc0 (by omega)
  have he:P.underlying t=some (.slice (P.elem t)):=by simp[Program.elem,hu]
  have hs':P.elem t=e:=by simp[Program.elem,hu]
  simp[execOp,ho,st.eval hx,st.eval hi,run_indexAt_slice w t _ _ _ _ _ he,h0,h1,hs',gQ hs,jK,elP]
theorem cC {t:TypeId}{x:Operand}{f k0 s n o':Nat}{v:Value}{cs:List Value}(ho:o.op=.fieldAddr t x f) (hf:fieldOff P t f=some k0) (hx:ev env x=some (elP v o')) (hr:Rd w0 l v s n cs) (hn:0<n):RunV P N w0 l env o (elP v (o'+k0)):=fun a w st=>by
  obtain⟨ad,cap,rfl,hl,_,hc0⟩:=hr w st.mem
  obtain⟨b,off,rfl,hc⟩:=hc0 hn
  simp[execOp,ho,st.eval hx,elP,sH hf,Nat.add_assoc]
theorem iQ {b off:Nat}{w:World}:∀(n i:Nat) (cs:List Value) (acc:Array Value),cs.length=n→(∀j u,cs[j]? = some u→w.cell? ⟨b,off+i+j,none⟩=some u)→(loadCellsFrom ⟨b,off,none⟩ i n acc).run P w=.ok (acc++cs.toArray) w
  | 0,i,cs,acc,hl,h=>by
    have:cs=[]:=List.length_eq_zero_iff.1 hl
    subst this
    simp[loadCellsFrom]
  | n+1,i,[],acc,hl,h=>by simp at hl
  | n+1,i,c::cs,acc,hl,h=>by
    have h0:=h 0 c rfl
    have h1:(load (⟨b,off+i,none⟩:Addr)).run P w=.ok c w:=by simp[run_load,Nat.add_zero] at h0 ⊢;simp[h0]
    have ih:=iQ (b:=b) (off:=off) (w:=w) n (i+1) cs (acc.push c) (by simpa using hl) (fun j u hj=>by have:=h (j+1) u (by simpa using hj);rw[show off+(i+1)+j=off+i+(j+1) by omega];exact this)
    simp only[loadCellsFrom,Sem.run_bind,jK,h1,Result.andThen_ok,ih]
    simp
theorem aN {t b off:Nat}{x:Operand}{v:Value}(ho:o.op=.load t x) (ha:aggB P t=some false) (hx:ev env x=some (.pointer (some ⟨b,off,none⟩)))
    (hc:∀w,Mem w0 l w→w.cell? ⟨b,off,none⟩=some v):RunV P N w0 l env o v:=fun a w st=>by
  have h1:(load (⟨b,off,none⟩:Addr)).run P w=.ok v w:=by simp[run_load,hc w st.mem]
  simp only[execOp,ho,st.eval hx,Instr.loadAt,Instr.sureAddr,loadVar,Sem.run_bind,Sem.run_pure,nN ha,Result.andThen_ok,Bool.false_eq_true,if_false,h1]
theorem aF {t b off s:Nat}{x:Operand}{cs:List Value}(ho:o.op=.load t x) (ha:aggB P t=some true) (hs:(P.info? t).map (·.size)=some s) (hx:ev env x=some (.pointer (some ⟨b,off,none⟩)))
    (hl:cs.length=s) (hc:∀w,Mem w0 l w→∀j u,cs[j]? = some u→w.cell? ⟨b,off+j,none⟩=some u):RunV P N w0 l env o (.agg cs.toArray):=fun a w st=>by
  have h1:=iQ (P:=P) (b:=b) (off:=off) (w:=w) s 0 cs #[] hl (fun j u hj=>hc w st.mem j u hj)
  simp at h1
  simp[execOp,ho,st.eval hx,Instr.loadAt,Instr.sureAddr,loadVar,nN ha,gQ hs,loadCells,h1]
theorem bG {t s n o':Nat}{x:Operand}{v u:Value}{cs:List Value}(ho:o.op=.load t x) (ha:aggB P t=some false) (hx:ev env x=some (elP v o')) (hr:Rd w0 l v s n cs) (hc:cs[o']? = some u):RunV P N w0 l env o u:=fun a w st=>by
  obtain⟨ad,cap,rfl,hl,_,hc0⟩:=hr w st.mem
  have hlt:o'<cs.length:=(List.getElem?_eq_some_iff.1 hc).1
  obtain⟨b,off,rfl,hc1⟩:=hc0 (by rcases Nat.eq_zero_or_pos n with h|h;(subst h;omega);exact h)
  have h1:(load (⟨b,off+o',none⟩:Addr)).run P w=.ok u w:=by simp[run_load,hc1 o' u hc]
  simp only[execOp,ho,st.eval hx,elP,Instr.loadAt,Instr.sureAddr,loadVar,Sem.run_bind,Sem.run_pure,nN ha,Result.andThen_ok,Bool.false_eq_true,if_false,h1]
theorem eI {t s s' n o':Nat}{x:Operand}{v:Value}{us cs:List Value}(ho:o.op=.load t x) (ha:aggB P t=some true) (hs:(P.info? t).map (·.size)=some s') (hx:ev env x=some (elP v o')) (hr:Rd w0 l v s n cs) (hn:0<n)
    (hl:us.length=s') (hc:∀j u,us[j]? = some u→cs[o'+j]? = some u):RunV P N w0 l env o (.agg us.toArray):=fun a w st=>by
  obtain⟨ad,cap,rfl,hl',_,hc0⟩:=hr w st.mem
  obtain⟨b,off,rfl,hc1⟩:=hc0 hn
  have h1:=iQ (P:=P) (b:=b) (off:=off+o') (w:=w) s' 0 us #[] hl (fun j u hj=>by have:=hc1 _ u (hc j u hj);rw[Nat.add_zero,Nat.add_assoc];exact this)
  simp at h1
  simp[execOp,ho,st.eval hx,elP,Instr.loadAt,Instr.sureAddr,loadVar,nN ha,gQ hs,loadCells,h1]
def IsBox (cs:Array Value) (t:TypeId) (v:Value) (post:List HP):Prop:=∃b,v=.pointer (some ⟨b,0,none⟩)∧post=[boxE b cs t]
theorem cN {t:TypeId}{x:Operand}{v:Value}(ho:o.op=.box t x) (hx:ev env x=some v):RunQ P N w0 l env o (IsBox v.cells t):=vP fun a w st=>
  ⟨.pointer (some ⟨w.heap.size,0,none⟩),_,w.alloc (.cells v.cells t),by simp[execOp,ho,st.eval hx,Instr.box,newVar,newRow],⟨_,rfl,rfl⟩,Aa w _ _⟩
theorem bP {t:TypeId}{z:Value}(ho:o.op=.alloc t) (hz:(P.info? t).bind (·.zero)=some z):RunQ P N w0 l env o (IsBox z.cells t):=vP fun a w st=>by
  obtain⟨i,hi,hz⟩:=Option.bind_eq_some_iff.1 hz
  exact⟨.pointer (some ⟨w.heap.size,0,none⟩),_,w.alloc (.cells z.cells t),by simp[execOp,ho,Instr.alloc,zeroValue,typeInfo,hi,hz,newVar,newRow],⟨_,rfl,rfl⟩,Aa w _ _⟩
theorem uQ {a w} (st : St N w0 l env a w) : ∀ (ps : List (Nat × Operand)) (vs : List (Nat × Value)), ps.mapM (fun p => (ev env p.2).map fun v => (p.1, v)) = some vs → ps.map (fun p => (p.1, a.eval p.2)) = vs
  | [],vs,h=>by simp at h;subst h;rfl
  | p::ps,vs,h=>by
    simp only[List.mapM_cons,Option.bind_eq_bind,Option.pure_def] at h
    cases hp:ev env p.2 with
    | none=>rw[hp] at h;simp at h
    | some v=>
      cases hr:ps.mapM (fun p=>(ev env p.2).map fun v=>(p.1,v)) with
      | none=>rw[hp,hr] at h;simp at h
      | some r=>
        rw[hp,hr] at h
        simp at h
        subst h
        simp[uQ st ps r hr,st.eval hp]
theorem dQ {t:TypeId}{ps:Array (Nat×Operand)}{vs:List (Nat×Value)}{cs:Array Value}(ho:o.op=.build t ps)
    (hp:ps.toList.mapM (fun p=>(ev env p.2).map fun v=>(p.1,v))=some vs) (hb:P.built t vs=some cs):RunV P N w0 l env o (.agg cs):=fun a w st=>by
  have h1:=uQ st _ _ hp
  have h2:(ps.map fun (p:Nat×Operand)=>(p.1,a.eval p.2)).toList=vs:=by simpa using h1
  simp[execOp,ho,run_build w t (ps.map fun (p:Nat×Operand)=>(p.1,a.eval p.2)) cs (by rw[h2];exact hb)]
theorem xD {t e n:Nat}{vs:Array (Nat×Value)}(hu:P.underlying t=some (.slice e)) (hs:(P.info? e).map (·.size)=some n) (w:World):(Instr.buildSlice t 0 #[]).run P w=.ok (.slice (some ⟨w.heap.size,0,none⟩) 0 0) (w.alloc (.cells #[] e)):=by
  simp[Instr.buildSlice,run_underlying hu,gQ hs,Instr.fill,newRow]
  congr 2
  apply Array.eq_empty_of_size_eq_zero;simp
def IsRow (e s n:Nat) (cs:List Value) (v:Value) (post:List HP):Prop:=∃b,v=.slice (some ⟨b,0,none⟩) n n∧post=[rowE e s v n cs]
theorem uC {w w':World}{e s n:Nat}{v:Value}{cs:List Value}(h:w'.ownsRow w.heap.size e s v n cs) (hb:Below w.heap.size w w'):Mem w [rowE e s v n cs] w':=(Mem.refl w).newRow h hb
theorem dH {t e s:Nat}(ho:o.op=.buildSlice t 0 #[]) (hu:P.underlying t=some (.slice e)) (hs:(P.info? e).map (·.size)=some s):RunQ P N w0 l env o (IsRow e s 0 []):=vP fun a w st=>
  ⟨.slice (some ⟨w.heap.size,0,none⟩) 0 0,_,w.alloc (.cells #[] e),by have:=xD (P:=P) (vs:=#[]) hu hs w;simp[execOp,ho,this],⟨_,rfl,rfl⟩,
    uC (World.ownsRow_made w #[] 0 (Nat.le_refl _) (by decide) (by simp)) (kM (Below.refl _ _) _)⟩
theorem bB {t e len s:Nat}{ps:Array (Nat×Operand)}{vs:List (Nat×Value)}{cs:List Value}{z:Value}(ho:o.op=.buildSlice t len ps) (hu:P.underlying t=some (.slice e))
    (hi:(P.info? e).map (fun i=>(i.zero,i.size))=some (some z,s)) (hpos:(0<len*s∧len*s≤1000000)∧len≤1000000)
    (hp:ps.toList.mapM (fun p=>(ev env p.2).map fun v=>(p.1,v))=some vs) (hb:(Instr.fill (fun i=>some (i*s,s)) ((Array.range (len*s)).map (z.cells[· % z.cells.size]!)) vs).map (·.toList)=some cs) (hl:cs.length=len*s):RunQ P N w0 l env o (IsRow e s len cs):=vP fun a w st=>by
  obtain⟨i,hi',he⟩:=Option.map_eq_some_iff.1 hi
  simp only[Prod.mk.injEq] at he
  obtain⟨hz,rfl⟩:=he
  obtain⟨ca,hca,rfl⟩:=Option.map_eq_some_iff.1 hb
  have h1:=uQ st _ _ hp
  have h2:(ps.map fun (p:Nat×Operand)=>(p.1,a.eval p.2)).toList=vs:=by simpa using h1
  have:=run_buildSlice (P:=P) w t e len (ps.map fun (p:Nat×Operand)=>(p.1,a.eval p.2)) ca i z hu hi' hz (by have:=hpos.1.2;omega) (by have:=hpos.1.1;omega) (by rw[h2];exact hca)
  refine⟨.slice (some ⟨w.heap.size,0,none⟩) len len,_,w.alloc (.cells ca e),by simp[execOp,ho,this],⟨_,rfl,rfl⟩,uC ?_ (kM (Below.refl _ _) _)⟩
  refine⟨hl,.inr ⟨w.heap.size,len,ca,rfl,Nat.le_refl _,heap_alloc_new w _,Nat.le_refl _,by unfold maxLen;omega,by simpa using hl,?_⟩⟩
  rw[List.take_of_length_le (by rw[hl];exact Nat.le_refl _)]
theorem gN {t e s bytes n:Nat}{x y:Operand}{z:Value}{cs:List Value}(ho:o.op=.makeSlice t x y) (hu:P.underlying t=some (.slice e))
    (hi:(P.info? e).map (fun i=>(i.zero,i.size,i.bytes))=some (some z,s,bytes)) (hb:bytes≤1000) {m m':Int}(hx:ev env x=some (.int .i64 m)) (hy:ev env y=some (.int .i64 m')) (hm:m=(n:Int)) (hm':m'=(n:Int)) (hn:n≤100000000000) (hcs:(madeCells z.cells (n*s)).toList=cs):RunQ P N w0 l env o (IsRow e s n cs):=vP fun a w st=>by
  obtain⟨i,hi,hz,hs,hby⟩:=info_parts hi
  subst hm hm' hcs
  obtain⟨w',hrun,r1,r2⟩:=run_make_full (P:=P) w w.heap.size t e i z s hu hi hz hs .i64 .i64 n (by rw[hby];have:=Nat.mul_le_mul hb hn;omega) (by unfold maxLen;omega) (Nat.le_refl _)
  exact⟨.slice (some ⟨w.heap.size,0,none⟩) n n,_,w',by simp[execOp,ho,st.eval hx,st.eval hy,hrun],⟨_,rfl,rfl⟩,uC r1 ((Below.refl _ _).grown r2 (Nat.le_refl _) (by simp))⟩
theorem hl_box {cs:Array Value}{t:TypeId}(hd:o.dst=some d) (hN:Nat.blt d N=true) (hw:want ops env o.guard=some true) (h:RunQ P N w0 l env o (IsBox cs t)) (k:∀b,HL P N ops w0 (boxE b cs t::l) ((d,.pointer (some ⟨b,0,none⟩))::env) rest Q):HL P N ops w0 l env (o::rest) Q:=
  eB hd hN hw h fun v post hv=>by obtain⟨b,rfl,rfl⟩:=hv;exact k b
theorem hl_row {e s n:Nat}{cs:List Value}(hd:o.dst=some d) (hN:Nat.blt d N=true) (hw:want ops env o.guard=some true) (h:RunQ P N w0 l env o (IsRow e s n cs)) (k:∀b,HL P N ops w0 (rowE e s (.slice (some ⟨b,0,none⟩) n n) n cs::l) ((d,.slice (some ⟨b,0,none⟩) n n)::env) rest Q):HL P N ops w0 l env (o::rest) Q:=
  eB hd hN hw h fun v post hv=>by obtain⟨b,rfl,rfl⟩:=hv;exact k b
theorem qL {t b off:Nat}{v:Value}{w:World}(hs:(P.info? t).map (·.size)=some 1) (h1:v.oneCell'=true) (hc:(w.cell? ⟨b,off,none⟩).isSome=true) (hf:w.frozen? ⟨b,off,none⟩=false) :
    (Instr.storeAt t (.pointer (some ⟨b,off,none⟩)) v).run P w=.ok () (w.setCell ⟨b,off,none⟩ v):=by
  have hcs:v.cells=#[v]:=by cases v<;>first|rfl|(cases h1;done)
  obtain⟨u,hu⟩:=Option.isSome_iff_exists.1 hc
  have hst:=run_store P w ⟨b,off,none⟩ v .plain h1
  rw[hu] at hst
  simp only[hf] at hst
  simp[Instr.storeAt,Instr.sureAddr,storeVar,hcs,gQ hs,storeCells,jK,hst]
theorem wL {t b off i:Nat}{x y:Operand}{cs:Array Value}{tb:TypeId}{v:Value}(hd:o.dst=none) (hw:want ops env o.guard=some true) (ho:o.op=.store t x y) (hs:(P.info? t).map (·.size)=some 1)
    (hx:ev env x=some (.pointer (some ⟨b,off,none⟩))) (hy:ev env y=some v) (h1:v.oneCell'=true) (hi:l[i]? = some (boxE b cs tb)) (hlt:Nat.blt off cs.size=true)
    (hl':l.set i (boxE b (cs.setIfInBounds off v) tb)=l') (k:HL P N ops w0 l' env rest Q):HL P N ops w0 l env (o::rest) Q:=by
  subst hl'
  exact mC hd hw (fun a w st=>by
    have hb:w.heap[b]? = some (.cells cs tb (0,0)):=st.mem.holds _ (bX hi)
    rw[Nat.blt_eq] at hlt
    refine⟨w.setCell ⟨b,off,none⟩ v,?_,st.mem.setBox hi off v⟩
    have:=qL (P:=P) (t:=t) (v:=v) (w:=w) (b:=b) (off:=off) hs h1 (by rw[jH hb];simp[hlt]) (lR hb)
    simp[execOp,ho,st.eval hx,st.eval hy,this]) k
theorem yU {t i e size n j:Nat}{x y:Operand}{xs:List Value}{v u:Value}(hd:o.dst=none) (hw:want ops env o.guard=some true) (ho:o.op=.store t x y) (hs:(P.info? t).map (·.size)=some 1)
    (hx:ev env x=some (elP v j)) (hy:ev env y=some u) (h1:u.oneCell'=true) (hi:l[i]? = some (rowE e size v n xs)) (hlt:j<n*size)
    {n':Nat}{xs':List Value}(hn':n=n') (hx':xs.set j u=xs') (hl':l.set i (rowE e size v n' xs')=l') (k:HL P N ops w0 l' env rest Q):HL P N ops w0 l env (o::rest) Q:=by
  subst hl' hn' hx'
  exact mC hd hw (fun a w st=>by
    have hb:w.ownsRow 0 e size v n xs:=st.mem.holds _ (bX hi)
    obtain⟨g,cap,rfl⟩:∃g cap,v=.slice (some ⟨g,0,none⟩) n cap:=by
      rcases hb.2 with⟨rfl,rfl⟩|⟨g,cap',cur,rfl,_⟩
      · omega
      · exact⟨g,cap',rfl⟩
    refine⟨w.setCell ⟨g,j,none⟩ u,?_,st.mem.setRow hi j u⟩
    have:=qL (P:=P) (t:=t) (v:=u) (w:=w) (b:=g) (off:=j) hs h1 (by rw[hb.cellAt j hlt,List.getElem?_eq_getElem (by rw[hb.1];exact hlt)];rfl) (hb.frozenAt j)
    simp[execOp,ho,st.eval hx,elP,st.eval hy,this]) k
theorem fB (xs:List Int) (m:Nat) (y:Int):(xs.map (Value.int .i64)).set (m*1) (.int .i64 y)=(xs.set m y).map (Value.int .i64):=by rw[Nat.mul_one,List.map_set]
theorem Mem.append {w0 w w':World}{l:List HP}{e size n n' i:Nat}{v v':Value}{xs ys:List Value}(hi:l[i]? = some (rowE e size v n xs)) (h:Mem w0 l w) (ho:w'.ownsRow 0 e size v' n' ys) (hg:w.grownBy w' v.ownBlock) (hv:v'.ownBlock=v.ownBlock∨v'.ownBlock=some w.heap.size):Mem w0 (l.set i (rowE e size v' n' ys)) w':=by
  refine h.turnAt hi hg.os hg.tape hg.output hg.size (fun k hk hf=>hg.block k hk (fun e=>hf e.symm)) (pO _ _ _ _ _) (fun k hk=>?_) (fun k hk=>(ho.lt k hk).2) ho
  have hk':v'.ownBlock=some k:=hk
  rcases hv with h1|h1
  · exact .inl (show v.ownBlock=some k from h1▸hk')
  · rw[h1] at hk';cases hk';exact .inr (Nat.le_refl _)
theorem Bp {t e s bytes n m i:Nat}{x y:Operand}{v u z:Value}{xs news:List Value}(hd:o.dst=some d) (hN:Nat.blt d N=true) (hw:want ops env o.guard=some true) (ho:o.op=.call { callee:=.builtin .append,args:=#[x,y],argTypes:=#[t,t] })
    (hu:P.underlying t=some (.slice e)) (hinf:(P.info? e).map (fun i=>(i.zero,i.size,i.bytes))=some (some z,s,bytes)) (hzs:(Nat.beq z.cells.size s&&Nat.blt 0 s&&Nat.ble bytes 1000)=true)
    (hx:ev env x=some v) (hy:ev env y=some u) (hi:l[i]? = some (rowE e s v n xs)) (hr:Rd w0 l u s m news) (h1:∀q∈news,q.oneCell'=true) (hnm:n+m≤100000000000)
    {n':Nat}{xs':List Value}(hn':n+m=n') (hx':xs++news=xs') {L:Value→List HP}(hL:∀v',l.set i (rowE e s v' n' xs')=L v')
    (k:∀v',HL P N ops w0 (L v') ((d,v')::env) rest Q):HL P N ops w0 l env (o::rest) Q:=fun a w st=>wpList_step fun K hK=>by
  rw[if_pos (st.wanted hw)]
  unfold Oper.wp
  obtain⟨inf,hi',hz,hs,hby⟩:=info_parts hinf
  simp only[Bool.and_eq_true,Nat.beq_eq,Nat.blt_eq,Nat.ble_eq] at hzs
  obtain⟨⟨hz1,hz2⟩,hz3⟩:=hzs
  obtain⟨ad,cap,rfl,hl,hm,hc⟩:=hr w st.mem
  have hown:w.ownsRow 0 e s v n xs:=st.mem.holds _ (bX hi)
  have hrun:∃v' w',(Builtin.append_ #[t,t] o.type #[v,.slice ad m cap]).run P w=.ok v' w'∧w'.ownsRow 0 e s v' (n+m) (xs++news)∧w.grownBy w' v.ownBlock∧(v'.ownBlock=v.ownBlock∨v'.ownBlock=some w.heap.size):=by
    by_cases hm0:m=0
    · subst hm0
      have hn:news=[]:=List.eq_nil_of_length_eq_zero (by simpa using hl)
      subst hn
      refine⟨v,w,?_,by simpa using hown,World.grownBy.refl _ _,.inl rfl⟩
      rcases hown.2 with⟨rfl,rfl⟩|⟨g,cap',cur,rfl,_,hg,hnc,hcm,hcs,htake⟩
      · cases ad<;>simp[Builtin.append_,run_underlying hu,sizeOf,typeInfo,hi',Builtin.lenOf,Builtin.firstCells,loadCells,loadCellsFrom]
      · cases ad<;>simp[Builtin.append_,run_underlying hu,sizeOf,typeInfo,hi',Builtin.lenOf,Builtin.firstCells,loadCells,loadCellsFrom,hnc,storeCells]
    · obtain ⟨b, off, rfl, hc'⟩ := hc (by omega)
      have hb:(n+m)*bytes≤140737488355328:=by have:=Nat.mul_le_mul hnm hz3;omega
      obtain⟨v',w',e1,e2,e3,_,e5⟩:=run_append_own_at (P:=P) w 0 t o.type e inf z s bytes hu hi' hz hs hby hz1 hz2 v n xs hown ⟨b,off,none⟩ m cap news hl (fun j q hj=>by rw[jK];exact hc' j q hj) h1 (by unfold maxLen;omega) hb (Nat.zero_le _)
      exact⟨v',w',e1,e2,e3,e5⟩
  obtain⟨v',w',e1,e2,e3,e4⟩:=hrun
  have hr:(execOp a.eval o).run P w=.ok (.value v') w':=by
    simp only[execOp,ho,resolve,invoke,builtin,Sem.run_bind,Sem.run_pure,Result.andThen_ok,List.map_toArray,List.map_cons,List.map_nil,st.eval hx,st.eval hy,e1]
  rw[hr,Oper.upon_value,hd]
  subst hn' hx'
  refine hK _ _ (k v' _ _ (st.put hN ?_))
  rw[←hL]
  exact Mem.append hi st.mem e2 e3 e4
theorem bC {t e s n:Nat}{v:Value}{cs:List Value}{x:Operand}(ho:o.op=.call { callee:=.builtin .len,args:=#[x],argTypes:=#[t] }) (hu:P.underlying t=some (.slice e)) (hx:ev env x=some v) (hr:Rd w0 l v s n cs):RunV P N w0 l env o (.int .i64 (n:Int)):=fun a w st=>by
  obtain⟨ad,cap,rfl,_⟩:=hr w st.mem
  have he:P.underlying t=some (.slice (P.elem t)):=by simp[Program.elem,hu]
  have:=run_len_slice (P:=P) w t o.type ad n cap he
  simp only[execOp,ho,resolve,invoke,builtin,Sem.run_bind,Sem.run_pure,Result.andThen_ok,List.map_toArray,List.map_cons,List.map_nil,st.eval hx,this,goInt]
def slV (v:Value) (lo hi s:Nat):Value:=match v with | .slice a _ cap=>sliced a lo hi cap s|_=>undef
theorem yA {w:World}{v:Value}{s n:Nat}{cs:List Value}(h:RdsW w v s n cs) {lo hi:Nat}(h1:lo≤hi) (h2:hi≤n):RdsW w (slV v lo hi s) s (hi-lo) ((cs.drop (lo*s)).take ((hi-lo)*s)):=by
  obtain⟨a,cap,rfl,hl,⟨hn,hcap⟩,hc0⟩:=h
  refine⟨_,_,rfl,?_,⟨by omega,by omega⟩,fun hp=>?_⟩
  · rw [List.length_take, List.length_drop, hl, ← Nat.sub_mul]
    exact Nat.min_eq_left (Nat.mul_le_mul_right _ (by omega))
  · obtain ⟨b, off, rfl, hc⟩ := hc0 (by omega)
    refine⟨b,off+lo*s,?_,fun j u hj=>?_⟩
    · rw[if_neg (by omega)];simp[jK]
    · rw [List.getElem?_take] at hj
      split at hj
      · rw[List.getElem?_drop] at hj;rw[Nat.add_assoc];exact hc _ u hj
      · cases hj
theorem rd_slL {w0:World}{l:List HP}{v:Value}{xs:List Int}(h:Rd w0 l v 1 xs.length (xs.map (Value.int .i64))) {k:Nat}(hk:k≤xs.length):Rd w0 l (slV v k xs.length 1) 1 (xs.drop k).length ((xs.drop k).map (Value.int .i64)):=fun w hm=>by
  have:=yA (h w hm) hk (Nat.le_refl _)
  rw[Nat.mul_one,Nat.mul_one,List.take_of_length_le (by simp)] at this
  rw[List.map_drop,List.length_drop];exact this
theorem rv_slH {t e s n:Nat}{v:Value}{cs:List Value}{x y:Operand}{k:Int}{kk:IntKind}(ho:o.op=.slice t x none (some y) none) (hu:P.underlying t=some (.slice e)) (hs:(P.info? e).map (·.size)=some s) (hx:ev env x=some v) (hy:ev env y=some (.int kk k)) (hr:Rd w0 l v s n cs) (h0:0≤k) (h1:k≤n):RunV P N w0 l env o (slV v 0 k.toNat s):=fun a w st=>by
  obtain⟨ad,cap,rfl,hl,⟨hn,hcap⟩,hc⟩:=hr w st.mem
  have he:P.underlying t=some (.slice (P.elem t)):=by simp[Program.elem,hu]
  have hs':P.elem t=e:=by simp[Program.elem,hu]
  have:=run_slice_h (P:=P) w t ad n cap he kk k h0 (by omega)
  simp[execOp,ho,st.eval hx,st.eval hy,run_sliceAt_slice w t _ _ _ _ he,this,hs',gQ hs,slV]
theorem Cs {t e s n:Nat}{v:Value}{cs:List Value}{x y:Operand}{k:Int}{kk:IntKind}(ho:o.op=.slice t x (some y) none none) (hu:P.underlying t=some (.slice e)) (hs:(P.info? e).map (·.size)=some s) (hx:ev env x=some v) (hy:ev env y=some (.int kk k)) (hr:Rd w0 l v s n cs) (h0:0≤k) (h1:k≤n):RunV P N w0 l env o (slV v k.toNat n s):=fun a w st=>by
  obtain⟨ad,cap,rfl,hl,⟨hn,hcap⟩,hc⟩:=hr w st.mem
  have he:P.underlying t=some (.slice (P.elem t)):=by simp[Program.elem,hu]
  have hs':P.elem t=e:=by simp[Program.elem,hu]
  have:=run_slice_l (P:=P) w t ad n cap he kk k h0 (by omega)
  simp[execOp,ho,st.eval hx,st.eval hy,run_sliceAt_slice w t _ _ _ _ he,this,hs',gQ hs,slV]
def goesB (P:Program) (f:FuncId):Bool:=match P.funcs[f]? with|some fn=>!(fn.name=="runtime.NumGoroutine")&&fn.body.isSome|none=>false
theorem tS {f:FuncId}(h:goesB P f=true) (vs:Array Value) (w:World):(callFunc f vs).run P w=.ok (.enter f vs) w:=by
  unfold goesB at h
  unfold callFunc
  cases hf:P.funcs[f]? with
  | none=>rw[hf] at h;cases h
  | some fn=>
    rw[hf] at h
    simp only[Bool.and_eq_true,Bool.not_eq_true',beq_eq_false_iff_ne] at h
    have h2:fn.body.isNone=false:=by cases hb:fn.body<;>simp_all
    simp only[Sem.run_bind,run_program,Result.andThen_ok,hf]
    rw[if_neg (by simpa using h.1),if_neg (by rw[h2];decide)]
    rfl
def evs (env:List (Nat×Value)) (xs:List Operand):Option (List Value):=xs.mapM (ev env)
theorem oE {a w} (st : St N w0 l env a w) : ∀ (xs : List Operand) (vs : List Value), evs env xs = some vs → xs.map a.eval = vs
  | [],vs,h=>by simp[evs] at h;subst h;rfl
  | x::xs,vs,h=>by
    simp only[evs,List.mapM_cons,Option.bind_eq_bind,Option.pure_def] at h
    cases hx:ev env x with
    | none=>rw[hx] at h;simp at h
    | some v=>
      cases hr:xs.mapM (ev env) with
      | none=>rw[hx,hr] at h;simp at h
      | some r=>
        rw[hx,hr] at h
        simp at h
        subst h
        simp[oE st xs r hr,st.eval hx]
def Ret (w:World) (R:Value→List HP→Prop) (e:Ending) (w':World):Prop:=∃v post,e=.returned v∧R v post∧Mem w post w'
def Ans (w:World) (v:Value) (e:Ending) (w':World):Prop:=e=.returned v∧Below w.heap.size w w'
theorem aJ {f:FuncId}{xs:Array Operand}{ats:Array TypeId}{vs:List Value}{R:Value→List HP→Prop}{ty:TypeId}{pos:String}{af:Array Edge}{gd:Option (Nat×Bool)}{ds:Option Nat}
    (hgo:goesB P f=true) (hvs:evs env xs.toList=some vs) (hc:∀w,Mem w0 l w→Calls P f vs.toArray w (Ret w R)):RunQ P N w0 l env { dst:=ds,op:=.call { callee:=.value (.func f),args:=xs,argTypes:=ats },type:=ty,pos:=pos,after:=af,guard:=gd } R:=fun a w st Q K hK=>by
  unfold Oper.wp
  have h1:=oE st _ _ hvs
  have h2:#[]++xs.map a.eval ++ #[]=vs.toArray:=by
    rw[Array.empty_append,Array.append_empty]
    apply Array.toList_inj.1
    simpa using h1
  rw[execOp_call_go,h2,tS hgo,Oper.upon_enter]
  refine(hc w st.mem).mono fun e w' h=>?_
  obtain⟨v,post,rfl,hR,hpost⟩:=h
  exact hK _ _ _ hR hpost
theorem aY {f:FuncId}{vs:Array Value}{v:Value}{w:World}(h:Calls P f vs w (Ans w v)):Calls P f vs w (Ret w (fun v' post=>v'=v∧post=[])):=h.mono fun e w' ⟨h1,h2⟩=>⟨v,[],h1,⟨rfl,rfl⟩,(Mem.refl w).step h2⟩
theorem Du {v:Value}(hd:o.dst=some d) (hN:Nat.blt d N=true) (hw:want ops env o.guard=some true) (h:RunQ P N w0 l env o (fun v' post=>v'=v∧post=[])) (k:HL P N ops w0 l ((d,v)::env) rest Q):HL P N ops w0 l env (o::rest) Q:=
  eB hd hN hw h fun v' post hv=>by obtain⟨rfl,rfl⟩:=hv;exact k
theorem bN {f:FuncId}{fn:Func}{c:Code}{args:List Value}{w:World}{R:Ending→World→Prop}(hf:P.funcs[f]? = some fn) (hb:fn.body=some c) (hN:(fn.ntmps==N&&Nat.ble args.length N)=true)
    (h:HC P N w [] (args.zipIdx.map fun p=>(p.2,p.1)) c (bodyPost P fn R)):Calls P f args.toArray w R:=by
  simp only[Bool.and_eq_true,beq_iff_eq,Nat.ble_eq] at hN
  refine calls_of_wp hf hb (h _ w ⟨Mem.refl w,?_,rfl,fun d v hd=>?_⟩)
  · simp;omega
  · have hm := yM hd
    rw[List.mem_map] at hm
    obtain⟨p,hp,he⟩:=hm
    have:=List.mem_zipIdx_iff_getElem?.1 hp
    simp only[Prod.mk.injEq] at he
    obtain⟨rfl,rfl⟩:=he
    have hlt:p.2<args.length:=(List.getElem?_eq_some_iff.1 this).1
    rw[Array.getElem?_append_left (by simpa using hlt)]
    simpa using this
def ResIs (P:Program) (w0:World) (l:List HP) (env:List (Nat×Value)) (r:ResultVar) (v:Value):Prop:=match r with
  | .tmp t=>lk env t=some v
  | .cell a t=>∃b off cs,lk env a=some (.pointer (some ⟨b,off,none⟩))∧v=.agg (List.toArray cs)∧aggB P t=some true∧(P.info? t).map (·.size)=some cs.length∧∀w,Mem w0 l w→∀j u,cs[j]? = some u→w.cell? ⟨b,off+j,none⟩=some u
def resRun (tm:Array Value):ResultVar→Sem Value
  | .tmp t=>pure (tm.getD t undef)
  | .cell c t=>do loadVar t (←asAddr (tm.getD c undef))
theorem xZ (fn:Func) (tm:Array Value):results fn tm=(do let vs←fn.results.mapM (resRun tm);pure (if h:vs.size=1 then vs[0] else .tuple vs)):=by
  unfold results
  congr 1
theorem ResIs.run {a w}(st:St N w0 l env a w) {r:ResultVar}{v:Value}(h:ResIs P w0 l env r v):(resRun a.tmps r).run P w=.ok v w:=by
  cases r with
  | tmp t=>
    have:=st.env t v h
    simp[resRun,this]
  | cell c t=>
    obtain⟨b,off,cs,hl,rfl,ha,hs,hc⟩:=h
    have:=st.env c _ hl
    have h1:=iQ (P:=P) (b:=b) (off:=off) (w:=w) cs.length 0 cs #[] rfl (fun j u hj=>hc w st.mem j u hj)
    simp at h1
    simp[resRun,this,asAddr,loadVar,nN ha,gQ hs,loadCells,h1]
def AllIs (P:Program) (w0:World) (l:List HP) (env:List (Nat×Value)):List ResultVar→List Value→Prop
  | [],[]=>True
  | r::rs,v::vs=>ResIs P w0 l env r v∧AllIs P w0 l env rs vs
  | _,_=>False
theorem ResIs.all {a w}(st:St N w0 l env a w):∀(rs:List ResultVar) (vs:List Value),AllIs P w0 l env rs vs→(rs.mapM (resRun a.tmps)).run P w=.ok vs w
  | [],[],h=>by simp
  | [],_::_,h=>h.elim
  | r::rs,[],h=>h.elim
  | r::rs,v::vs,h=>by
    simp only[List.mapM_cons,Sem.run_bind]
    rw[ResIs.run st h.1]
    simp only[Result.andThen_ok,ResIs.all st rs vs h.2,Sem.run_pure]
def tupled (vs:List Value):Value:=match vs with|[v]=>v|vs=>.tuple vs.toArray
theorem eG {fn:Func}{R:Ending→World→Prop}{rs:List ResultVar}{vs:List Value}{v:Value}(hr:fn.results=rs.toArray) (hv:AllIs P w0 l env rs vs) (ht:tupled vs=v) (h:∀w,Mem w0 l w→R (.returned v) w):HQ N w0 l env .ret (bodyPost P fn R):=fun a w st=>by
  refine⟨st.defers,v,?_,h w st.mem⟩
  have h1:=ResIs.all (P:=P) st rs vs hv
  rw[xZ,hr]
  simp only[List.mapM_toArray,Sem.run_bind,Sem.run_map]
  rw[h1]
  simp only[Result.andThen_ok,Sem.run_pure]
  subst ht
  cases vs with
  | nil=>rfl
  | cons v vs=>cases vs<;>rfl
theorem eC (h:l=l') (k:HL P N ops w0 l' env rest Q):HL P N ops w0 l env rest Q:=h▸k
theorem aD {b:Nat}{cs:Array Value}{t:TypeId}{us:List Value}(i:Nat) (h:l[i]? = some (boxE b cs t)) (k:Nat) (hu:(cs.toList.drop k).take us.length=us):∀w,Mem w0 l w→∀j u,us[j]? = some u→w.cell? ⟨b,k+j,none⟩=some u:=fun w hm j u hj=>by
  rw[jH (hm.holds _ (bX h))]
  rw[←hu,List.getElem?_take] at hj
  split at hj
  · simpa using hj
  · cases hj
theorem gP {f:FuncId}{vs:Array Value}{v:Value}{w:World}(h:Calls P f vs w fun e w'=>e=.returned v∧w=w'):Calls P f vs w (Ans w v):=h.mono fun _ _ ⟨h1,h2⟩=>⟨h1,h2▸Below.refl _ _⟩
theorem cH {α:Type}(a b:List α):a.length+b.length=(a++b).length:=List.length_append.symm
theorem dL (a b:List Int):a.map (Value.int .i64)++b.map (Value.int .i64)=(a++b).map (Value.int .i64):=List.map_append.symm
theorem cO (xs:List Int):∀q∈xs.map (Value.int .i64),q.oneCell'=true:=by
  intro q hq;rw[List.mem_map] at hq;obtain⟨x, -,rfl⟩:=hq;rfl
theorem eS {xs:List Int}{m:Int}(h:m.toNat<xs.length):(xs.map (Value.int .i64))[m.toNat*1]? = some (.int .i64 (xs.getD m.toNat 0)):=by
  simp[h]
theorem cA {fn:Func}{t:Tmp}{v u:Value}(hr:fn.results=#[.tmp t]) (hv:lk env t=some v) (hu:v=u):HQ N w0 l env .ret (bodyPost P fn (Ans w0 u)):=
  eG (rs:=[.tmp t]) (vs:=[v]) hr ⟨hv,trivial⟩ rfl (fun w hm=>⟨by rw[hu];rfl,hm.bel⟩)
theorem dX {fn:Func}{R:Value→List HP→Prop}{t:Tmp}{v:Value}{post:List HP}(hr:fn.results=#[.tmp t]) (hv:lk env t=some v) (hl:post.Sublist l) (h:R v post):HQ N w0 l env .ret (bodyPost P fn (Ret w0 R)):=
  eG (rs:=[.tmp t]) (vs:=[v]) hr ⟨hv,trivial⟩ rfl (fun w hm=>⟨v,post,rfl,h,hm.sub hl⟩)
theorem sS {fn:Func}{R:Ending→World→Prop}(h:HQ N w0 l env .ret (bodyPost P fn R)):HQ N w0 l env .normal (bodyPost P fn R):=h
end
def depsOf (os:List Oper) (i:Nat):List Nat:=match os[i]? with|some o=>(o.after.toList.filter (fun e=>Region.binds .any e)).map (·.on)|none=>[]
def msk:List (List Nat)→List Nat→List Nat
  | [],acc=>acc
  | ds::r,acc=>msk r (acc++[ds.foldl (fun s d=>s||| 2 ^ d||| acc.getD d 0) 0])
inductive Dep (os:List Oper):Nat→Nat→Prop
  | one {i j:Nat}:j∈depsOf os i→Dep os i j
  | more {i k j:Nat}:k∈depsOf os i→Dep os k j→Dep os i j
theorem sW (acc:List Nat) (j:Nat):∀(ds:List Nat) (s:Nat),(ds.foldl (fun s d=>s||| 2 ^ d||| acc.getD d 0) s).testBit j=true→s.testBit j=true∨∃d∈ds,d=j∨(acc.getD d 0).testBit j=true
  | [],s,h=>.inl h
  | d::ds,s,h=>by
    rcases sW acc j ds _ h with h1|⟨e,he,h1⟩
    · rw [Nat.testBit_or, Nat.testBit_or, Bool.or_eq_true, Bool.or_eq_true, Nat.testBit_two_pow] at h1
      rcases h1 with(h1|h1)|h1
      · exact .inl h1
      · exact .inr ⟨d,by simp,.inl (by simpa using h1)⟩
      · exact .inr ⟨d,by simp,.inr h1⟩
    · exact .inr ⟨e,by simp[he],h1⟩
theorem uB (os : List Oper) : ∀ (r : List (List Nat)) (acc : List Nat), (∀ t ds, r[t]? = some ds → ∀ d ∈ ds, d ∈ depsOf os (acc.length + t)) → (∀ i j, (acc.getD i 0).testBit j = true → Dep os i j) → ∀ i j, ((msk r acc).getD i 0).testBit j = true → Dep os i j
  | [],acc,_,h,i,j,hb=>h i j hb
  | ds::r,acc,hr,h,i,j,hb=>by
    refine uB os r _ (fun t es ht d hd=>?_) (fun i j hb=>?_) i j hb
    · have := hr (t + 1) es (by simpa using ht) d hd
      rw[List.length_append]
      rw[show acc.length+[ds.foldl (fun s d=>s||| 2 ^ d||| acc.getD d 0) 0].length+t=acc.length+(t+1) by simp;omega]
      exact this
    · by_cases hi : i < acc.length
      · refine h i j ?_
        rw[List.getD_eq_getElem?_getD,List.getElem?_append_left hi,←List.getD_eq_getElem?_getD] at hb
        exact hb
      · by_cases hi2 : i = acc.length
        · subst hi2
          rw[List.getD_eq_getElem?_getD,List.getElem?_append_right (Nat.le_refl _),Nat.sub_self] at hb
          simp only[List.getElem?_cons_zero,Option.getD_some] at hb
          rcases sW acc j ds 0 hb with h1|⟨d,hd,h1⟩
          · simp at h1
          · have h2 := hr 0 ds rfl d hd
            rw[Nat.add_zero] at h2
            rcases h1 with rfl|h1
            · exact .one h2
            · exact .more h2 (h d j h1)
        · rw [List.getD_eq_getElem?_getD, List.getElem?_append_right (by omega), List.getElem?_eq_none (by simp; omega)] at hb
          simp at hb
def drawOk (os:List Oper) (m:Nat) (dps:List (List Nat)) (dsts:List Nat):Bool:=
  Nat.ble m os.length&&
  (List.range os.length).all (fun i=>(depsOf os i).all (fun j=>Nat.blt j i))&&
  (List.range os.length).all (fun k=>Nat.blt k m||(List.range m).all (fun j=>((msk ((List.range os.length).map (depsOf os)) []).getD k 0).testBit j))&&
  (List.range (os.length-m)).all (fun t=>Region.ready .any os.toArray (List.replicate (m+t) true++List.replicate (os.length-(m+t)) false).toArray==[m+t])&&
  (os.take m).map (·.dst)==dsts.map some&&decide (dsts.Nodup)&&
  (List.range m).all (fun i=>(dps.getD i []).all (fun j=>((msk ((List.range os.length).map (depsOf os)) []).getD i 0).testBit j)&&decide ((dps.getD i []).Nodup))
def Obl (P:Program) (ops:Array Oper) (N:Nat) (w0:World) (l:List HP) (env:List (Nat×Value)) (o:Oper) (R:Value→List HP→Prop):Prop:=
  (want ops env o.guard=some true∧RunQ P N w0 l env o R)∨(want ops env o.guard=some false∧R undef [])
theorem kH:∀(dp ord:List Nat),dp.Nodup→(∀j∈dp,j∈ord)→∃r,ord.Perm (dp++r)
  | [],ord,_,_=>⟨ord,.refl _⟩
  | j::dp,ord,hn,hs=>by
    obtain⟨r,hr⟩:=kH dp ord (List.nodup_cons.1 hn).2 (fun k hk=>hs k (by simp[hk]))
    have hj:j∈dp++r:=hr.mem_iff.1 (hs j (by simp))
    have hjr:j∈r:=by
      rcases List.mem_append.1 hj with h|h
      · exact absurd h (List.nodup_cons.1 hn).1
      · exact h
    exact⟨r.erase j,hr.trans (((List.perm_cons_erase hjr).append_left dp).trans List.perm_middle)⟩
theorem Mem.pick {w0 w:World}{l:List HP}{pf:Nat→List HP}{dp ord:List Nat}(h:Mem w0 (ord.flatMap pf++l) w) (hn:dp.Nodup) (hs:∀j∈dp,j∈ord):Mem w0 (dp.flatMap pf++l) w:=by
  obtain⟨r,hr⟩:=kH dp ord hn hs
  have h1:=h.perm ((hr.flatMap_right pf).append_right l)
  rw[List.flatMap_append] at h1
  exact h1.sub (((List.sublist_append_left _ _)).append_right l)
section
variable {P:Program}{N:Nat}{w0:World}{l:List HP}{env:List (Nat×Value)}{Q:Post}{os:List Oper}{m:Nat}{dps:List (List Nat)}{dsts:List Nat}{R:Nat→List Value→Value→List HP→Prop}
def preT (n k:Nat):Array Bool:=(List.replicate k true++List.replicate (n-k) false).toArray
theorem lK (n k i:Nat) (hk:k≤n) (hi:i<n):(preT n k).getD i true=decide (i<k):=by
  unfold preT
  simp only[Array.getD_eq_getD_getElem?,List.getElem?_toArray]
  by_cases h:i<k
  · rw[List.getElem?_append_left (by simpa using h)];simp[h]
  · rw[List.getElem?_append_right (by simpa using h),List.getElem?_eq_getElem (by simp;omega)];simp[h]
theorem iP (n k:Nat) (hk:k≤n):(preT n k).size=n:=by unfold preT;simp;omega
theorem Cz (n k:Nat) (hk:k<n):(preT n k).setIfInBounds k true=preT n (k+1):=by
  apply Array.ext
  · simp[iP n k (by omega),iP n (k+1) (by omega)]
  · intro i h1 h2
    have hi:i<n:=by rw[iP n (k+1) (by omega)] at h2;exact h2
    have e1:=lK n k i (by omega) hi
    have e2:=lK n (k+1) i (by omega) hi
    rw[Array.getD_eq_getD_getElem?,Array.getElem?_eq_getElem (by rw[iP n k (by omega)];exact hi)] at e1
    rw[Array.getD_eq_getD_getElem?,Array.getElem?_eq_getElem h2] at e2
    simp only[Option.getD_some] at e1 e2
    rw[e2,Array.getElem_setIfInBounds]
    · split
      · rename_i h;subst h;simp
      · rw[e1];rw[decide_eq_decide];omega
    · rw[iP n k (by omega)];exact hi
theorem qH (hr:∀k,m≤k→k<os.length→Region.ready .any os.toArray (preT os.length k)=[k]):∀(f k:Nat),m≤k→f+k=os.length→∀a w,wpList P os.toArray Q (os.drop k) a w→wpAny P .any os.toArray Q f (preT os.length k) a w
  | 0,k,hk,hf,a,w,h=>by
    have:os.drop k=[]:=List.drop_eq_nil_of_le (by omega)
    rw[this] at h
    refine⟨?_,h⟩
    unfold Region.ready
    rw[List.filter_eq_nil_iff]
    intro i hi
    rw[List.mem_range] at hi
    simp only[List.size_toArray] at hi
    rw[lK _ _ i (by omega) (by omega)]
    simp[show i<k by omega]
  | f+1,k,hk,hf,a,w,h=>by
    have hlt:k<os.length:=by omega
    have hd:os.drop k=os[k]::os.drop (k+1):=List.drop_eq_getElem_cons hlt
    rw[hd] at h
    refine⟨fun h0=>(by rw[hr k hk hlt] at h0;cases h0),fun i hi=>?_⟩
    rw[hr k hk hlt,List.mem_singleton] at hi
    subst hi
    unfold wpOp
    have ho:os.toArray[i]? = some os[i]:=by simp[hlt]
    rw[ho]
    unfold wpList at h
    rw[Cz _ _ hlt]
    have ih:=qH hr f (i+1) (by omega) (by omega)
    simp only
    split
    · rename_i hw
      rw[if_pos hw] at h
      exact h.imp (Oper.wp_mono fun a w hh=>ih a w hh) id
    · rename_i hw
      rw[if_neg hw] at h
      exact ih _ _ h
structure Mid (N:Nat) (w0:World) (l:List HP) (env:List (Nat×Value)) (os:List Oper) (m:Nat) (dps:List (List Nat)) (dsts:List Nat) (R:Nat→List Value→Value→List HP→Prop) (listed:Array Bool) (ord:List Nat) (vf:Nat→Value) (pf:Nat→List HP) (a:Act) (w:World):Prop where
  size:listed.size=os.length
  iff:∀i,i<os.length→(listed.getD i true=true↔i∈ord)
  low:∀i∈ord,i<m
  closed:∀i∈ord,∀j∈depsOf os i,j∈ord
  nodup:ord.Nodup
  dcl:∀i∈ord,∀j∈dps.getD i [],j∈ord
  rel:∀i∈ord,R i ((dps.getD i []).map vf) (vf i) (pf i)
  mem:Mem w0 (ord.flatMap pf++l) w
  asize:a.tmps.size=N
  defers:a.defers=[]
  env:∀d v,lk env d=some v→a.tmps[d]? = some v
  slots:∀i∈ord,∀d,dsts[i]? = some d→a.tmps[d]? = some (vf i)
def envOf (dsts:List Nat) (vf:Nat→Value) (is:List Nat):List (Nat×Value):=is.map fun i=>(dsts.getD i 0,vf i)
theorem lZ (e1 e2:List (Nat×Value)) (d:Nat) (v:Value) (h:lk (e1++e2) d=some v):(d,v)∈e1∨lk e2 d=some v:=by
  induction e1 with
  | nil=>exact .inr h
  | cons p e1 ih=>
    obtain⟨k,u⟩:=p
    rw[List.cons_append] at h
    unfold lk at h
    cases e:Nat.beq k d with
    | true=>rw[e] at h;simp at h;subst h;rw[Nat.eq_of_beq_eq_true e];exact .inl List.mem_cons_self
    | false=>
      rw[e] at h
      rcases ih h with h|h
      · exact .inl (List.mem_cons_of_mem _ h)
      · exact .inr h
theorem Mid.st {listed ord vf pf a w}(h:Mid N w0 l env os m dps dsts R listed ord vf pf a w) (hm:m≤dsts.length) {is:List Nat}(hn:is.Nodup) (hs:∀j∈is,j∈ord):St N w0 (is.flatMap pf++l) (envOf dsts vf is++env) a w:=by
  refine⟨h.mem.pick hn hs,h.asize,h.defers,fun d v hd=>?_⟩
  rcases lZ _ _ _ _ hd with h1|h1
  · unfold envOf at h1
    rw[List.mem_map] at h1
    obtain⟨i,hi,he⟩:=h1
    have hio:=hs i hi
    have hlt:=h.low i hio
    have:dsts[i]? = some (dsts.getD i 0):=by rw[List.getD_eq_getElem?_getD,List.getElem?_eq_getElem (by omega)];rfl
    simp only[Prod.mk.injEq] at he
    obtain⟨rfl,rfl⟩:=he
    exact h.slots i hio _ this
  · exact h.env d v h1
def Dues (P:Program) (ops:Array Oper) (N:Nat) (w0:World) (l:List HP) (env:List (Nat×Value)) (dsts:List Nat) (all:List (List Nat)) (R:Nat→List Value→Value→List HP→Prop):Nat→List (List Nat)→List Oper→Prop
  | _,_,[]=>True
  | k,[],o::os=>(∀(vf:Nat→Value) (pf:Nat→List HP),Obl P ops N w0 l env o (R k []))∧Dues P ops N w0 l env dsts all R (k+1) [] os
  | k,ds::dps,o::os=>(∀(vf:Nat→Value) (pf:Nat→List HP),(∀j∈ds,R j ((all.getD j []).map vf) (vf j) (pf j))→Obl P ops N w0 (ds.flatMap pf++l) (envOf dsts vf ds++env) o (R k (ds.map vf)))∧Dues P ops N w0 l env dsts all R (k+1) dps os
theorem uS {P:Program}{ops:Array Oper}{N:Nat}{w0:World}{l:List HP}{env:List (Nat×Value)}{dsts:List Nat}{all:List (List Nat)}{R:Nat→List Value→Value→List HP→Prop}:∀(os:List Oper) (dps:List (List Nat)) (k:Nat),Dues P ops N w0 l env dsts all R k dps os→∀i o,os[i]? = some o→∀vf pf,(∀j∈dps.getD i [],R j ((all.getD j []).map vf) (vf j) (pf j))→Obl P ops N w0 ((dps.getD i []).flatMap pf++l) (envOf dsts vf (dps.getD i [])++env) o (R (k+i) ((dps.getD i []).map vf))
  | [],_,_,_,i,o,ho,_,_,_=>by simp at ho
  | o'::os,[],k,h,0,o,ho,vf,pf,_=>by simp at ho;subst ho;exact h.1 vf pf
  | o'::os,[],k,h,i+1,o,ho,vf,pf,hR=>by
    have:=uS os [] (k+1) h.2 i o (by simpa using ho) vf pf (by simp)
    rw[show k+1+i=k+(i+1) by omega] at this
    simpa using this
  | o'::os,ds::dps,k,h,0,o,ho,vf,pf,hR=>by simp at ho;subst ho;exact h.1 vf pf hR
  | o'::os,ds::dps,k,h,i+1,o,ho,vf,pf,hR=>by
    have:=uS os dps (k+1) h.2 i o (by simpa using ho) vf pf (by simpa using hR)
    rw[show k+1+i=k+(i+1) by omega] at this
    simpa using this
theorem dT {ops:Array Oper}{env:List (Nat×Value)}{j:Nat}{b c r:Bool}(hj:((ops[j]?).bind (·.dst)).bind (lk env)=some (.bool c)) (hr:(c==b)=r):want ops env (some (j,b))=some r:=by
  unfold want;simp only[hj,hr]
theorem wO {α:Type}{c:Code}(L:α→List HP) (E:α→List (Nat×Value)) (G:α→Prop) (m:α→Nat) (x0:α) (hG:G x0) (hs:sub (E x0) env) (hl:(L x0).Sublist l)
    (round:∀x,G x→HC P N w0 (L x) (E x) c (Exit.then (fun a' w'=>∃x',G x'∧m x'<m x∧St N w0 (L x') (E x') a' w') Q)):HC P N w0 l env (.loop c) Q:=
  pW (fun q:α=>L q) (fun q=>E q) (fun q=>G q) (fun q=>m q) (x0) hG hs hl (fun q hq a w st=>wp_mono (round q hq a w st) fun e a' w' h=>by
    cases e with
    | normal=>obtain⟨x',h1,h2,h3⟩:=h;exact⟨(x'),h1,h2,h3⟩
    | exit id=>exact h
    | goto l=>exact h
    | ret=>exact h
    | panic ch=>exact h
    | outgrown=>exact h)
theorem cU {α:Type}{L:α→List HP}{E:α→List (Nat×Value)}{G:α→Prop}{m:α→Nat}{M:Nat}(x':α) (hG:G x') (hm:m x'<M) (hs:sub (E x') env) (hl:(L x').Sublist l) :
    HQ N w0 l env .normal (Exit.then (fun a' w'=>∃x',G x'∧m x'<M∧St N w0 (L x') (E x') a' w') Q):=fun a w st=>⟨x',hG,hm,st.less hs hl⟩
theorem lQ {α:Type}{c1 c2:Code}(L:α→List HP) (E:α→List (Nat×Value)) (G:α→Prop) (h:HC P N w0 l env c1 (Exit.then (fun a' w'=>∃x',G x'∧St N w0 (L x') (E x') a' w') Q)) (k:∀x,G x→HC P N w0 (L x) (E x) c2 Q):HC P N w0 l env (.seq c1 c2) Q:=by
  intro a w st
  refine wp_seq (wp_mono (h a w st) fun e a' w' h=>?_)
  cases e with
  | normal=>obtain⟨x',hz,sz⟩:=h;exact k x' hz a' w' sz
  | exit id=>exact h
  | goto l=>exact h
  | ret=>exact h
  | panic ch=>exact h
  | outgrown=>exact h
theorem fR {α:Type}{L:α→List HP}{E:α→List (Nat×Value)}{G:α→Prop}(x':α) (hG:G x') (hs:sub (E x') env) (hl:(L x').Sublist l) :
    HQ N w0 l env .normal (Exit.then (fun a' w'=>∃x',G x'∧St N w0 (L x') (E x') a' w') Q):=fun a w st=>⟨x',hG,st.less hs hl⟩
theorem wN {α β:Type}{c:Code}(L:α→β→List HP) (E:α→β→List (Nat×Value)) (G:α→β→Prop) (m:α→β→Nat) (x0:α) (y0:β) (hG:G x0 y0) (hs:sub (E x0 y0) env) (hl:(L x0 y0).Sublist l)
    (round:∀x y,G x y→HC P N w0 (L x y) (E x y) c (Exit.then (fun a' w'=>∃x' y',G x' y'∧m x' y'<m x y∧St N w0 (L x' y') (E x' y') a' w') Q)):HC P N w0 l env (.loop c) Q:=
  pW (fun q:α×β=>L q.1 q.2) (fun q=>E q.1 q.2) (fun q=>G q.1 q.2) (fun q=>m q.1 q.2) (x0,y0) hG hs hl (fun q hq a w st=>wp_mono (round q.1 q.2 hq a w st) fun e a' w' h=>by
    cases e with
    | normal=>obtain⟨x',y',h1,h2,h3⟩:=h;exact⟨(x',y'),h1,h2,h3⟩
    | exit id=>exact h
    | goto l=>exact h
    | ret=>exact h
    | panic ch=>exact h
    | outgrown=>exact h)
theorem cG {α β:Type}{L:α→β→List HP}{E:α→β→List (Nat×Value)}{G:α→β→Prop}{m:α→β→Nat}{M:Nat}(x':α) (y':β) (hG:G x' y') (hm:m x' y'<M) (hs:sub (E x' y') env) (hl:(L x' y').Sublist l) :
    HQ N w0 l env .normal (Exit.then (fun a' w'=>∃x' y',G x' y'∧m x' y'<M∧St N w0 (L x' y') (E x' y') a' w') Q):=fun a w st=>⟨x',y',hG,hm,st.less hs hl⟩
theorem qZ {α β γ:Type}{c:Code}(L:α→β→γ→List HP) (E:α→β→γ→List (Nat×Value)) (G:α→β→γ→Prop) (m:α→β→γ→Nat) (x0:α) (y0:β) (z0:γ) (hG:G x0 y0 z0) (hs:sub (E x0 y0 z0) env) (hl:(L x0 y0 z0).Sublist l)
    (round:∀x y z,G x y z→HC P N w0 (L x y z) (E x y z) c (Exit.then (fun a' w'=>∃x' y' z',G x' y' z'∧m x' y' z'<m x y z∧St N w0 (L x' y' z') (E x' y' z') a' w') Q)):HC P N w0 l env (.loop c) Q:=
  pW (fun q:α×β×γ=>L q.1 q.2.1 q.2.2) (fun q=>E q.1 q.2.1 q.2.2) (fun q=>G q.1 q.2.1 q.2.2) (fun q=>m q.1 q.2.1 q.2.2) (x0,y0,z0) hG hs hl (fun q hq a w st=>wp_mono (round q.1 q.2.1 q.2.2 hq a w st) fun e a' w' h=>by
    cases e with
    | normal=>obtain⟨x',y',z',h1,h2,h3⟩:=h;exact⟨(x',y',z'),h1,h2,h3⟩
    | exit id=>exact h
    | goto l=>exact h
    | ret=>exact h
    | panic ch=>exact h
    | outgrown=>exact h)
theorem cI {α β γ:Type}{L:α→β→γ→List HP}{E:α→β→γ→List (Nat×Value)}{G:α→β→γ→Prop}{m:α→β→γ→Nat}{M:Nat}(x':α) (y':β) (z':γ) (hG:G x' y' z') (hm:m x' y' z'<M) (hs:sub (E x' y' z') env) (hl:(L x' y' z').Sublist l) :
    HQ N w0 l env .normal (Exit.then (fun a' w'=>∃x' y' z',G x' y' z'∧m x' y' z'<M∧St N w0 (L x' y' z') (E x' y' z') a' w') Q):=fun a w st=>⟨x',y',z',hG,hm,st.less hs hl⟩
theorem lP {α β γ:Type}{c1 c2:Code}(L:α→β→γ→List HP) (E:α→β→γ→List (Nat×Value)) (G:α→β→γ→Prop) (h:HC P N w0 l env c1 (Exit.then (fun a' w'=>∃x' y' z',G x' y' z'∧St N w0 (L x' y' z') (E x' y' z') a' w') Q)) (k:∀x y z,G x y z→HC P N w0 (L x y z) (E x y z) c2 Q):HC P N w0 l env (.seq c1 c2) Q:=by
  intro a w st
  refine wp_seq (wp_mono (h a w st) fun e a' w' h=>?_)
  cases e with
  | normal=>obtain⟨x',y',z',hz,sz⟩:=h;exact k x' y' z' hz a' w' sz
  | exit id=>exact h
  | goto l=>exact h
  | ret=>exact h
  | panic ch=>exact h
  | outgrown=>exact h
theorem gC {α β γ:Type}{L:α→β→γ→List HP}{E:α→β→γ→List (Nat×Value)}{G:α→β→γ→Prop}(x':α) (y':β) (z':γ) (hG:G x' y' z') (hs:sub (E x' y' z') env) (hl:(L x' y' z').Sublist l) :
    HQ N w0 l env .normal (Exit.then (fun a' w'=>∃x' y' z',G x' y' z'∧St N w0 (L x' y' z') (E x' y' z') a' w') Q):=fun a w st=>⟨x',y',z',hG,st.less hs hl⟩
theorem wM {α β γ δ:Type}{c:Code}(L:α→β→γ→δ→List HP) (E:α→β→γ→δ→List (Nat×Value)) (G:α→β→γ→δ→Prop) (m:α→β→γ→δ→Nat) (x0:α) (y0:β) (z0:γ) (u0:δ) (hG:G x0 y0 z0 u0) (hs:sub (E x0 y0 z0 u0) env) (hl:(L x0 y0 z0 u0).Sublist l)
    (round:∀x y z u,G x y z u→HC P N w0 (L x y z u) (E x y z u) c (Exit.then (fun a' w'=>∃x' y' z' u',G x' y' z' u'∧m x' y' z' u'<m x y z u∧St N w0 (L x' y' z' u') (E x' y' z' u') a' w') Q)):HC P N w0 l env (.loop c) Q:=
  pW (fun q:α×β×γ×δ=>L q.1 q.2.1 q.2.2.1 q.2.2.2) (fun q=>E q.1 q.2.1 q.2.2.1 q.2.2.2) (fun q=>G q.1 q.2.1 q.2.2.1 q.2.2.2) (fun q=>m q.1 q.2.1 q.2.2.1 q.2.2.2) (x0,y0,z0,u0) hG hs hl (fun q hq a w st=>wp_mono (round q.1 q.2.1 q.2.2.1 q.2.2.2 hq a w st) fun e a' w' h=>by
    cases e with
    | normal=>obtain⟨x',y',z',u',h1,h2,h3⟩:=h;exact⟨(x',y',z',u'),h1,h2,h3⟩
    | exit id=>exact h
    | goto l=>exact h
    | ret=>exact h
    | panic ch=>exact h
    | outgrown=>exact h)
theorem eD {α β γ δ:Type}{L:α→β→γ→δ→List HP}{E:α→β→γ→δ→List (Nat×Value)}{G:α→β→γ→δ→Prop}{m:α→β→γ→δ→Nat}{M:Nat}(x':α) (y':β) (z':γ) (u':δ) (hG:G x' y' z' u') (hm:m x' y' z' u'<M) (hs:sub (E x' y' z' u') env) (hl:(L x' y' z' u').Sublist l) :
    HQ N w0 l env .normal (Exit.then (fun a' w'=>∃x' y' z' u',G x' y' z' u'∧m x' y' z' u'<M∧St N w0 (L x' y' z' u') (E x' y' z' u') a' w') Q):=fun a w st=>⟨x',y',z',u',hG,hm,st.less hs hl⟩
theorem Mem.nilRow {w0 w:World}{l:List HP}(h:Mem w0 l w) (e s:Nat):Mem w0 (rowE e s (.slice none 0 0) 0 []::l) w:=by
  have:Mem w [rowE e s (.slice none 0 0) 0 []] w:=by
    refine⟨Below.refl _ _,?_,?_,?_,by simp⟩
    · intro p hp;rw[List.mem_singleton] at hp;subst hp;exact World.ownsRow_nil ..
    · intro p hp;rw[List.mem_singleton] at hp;subst hp;exact pO _ _ _ _ _
    · intro p hp b hf;rw[List.mem_singleton] at hp;subst hp;cases hf
  exact h.app this
theorem jM {rest:List Oper}{ops:Array Oper}(e s:Nat) (k:HL P N ops w0 (rowE e s (.slice none 0 0) 0 []::l) env rest Q):HL P N ops w0 l env rest Q:=fun a w st=>k a w (st.to (st.mem.nilRow e s))
theorem eH {ops : Array Oper} {rest : List Oper} {d : Nat} {f : FuncId} {xs : Array Operand} {ats : Array TypeId} {vs : List Value} {p : HP} {R : Value → HP → Prop} {ty : TypeId} {pos : String} {af : Array Edge} {gd : Option (Nat × Bool)} (i : Nat) (hN : Nat.blt d N = true) (hw : want ops env gd = some true)
    (hgo:goesB P f=true) (hvs:evs env xs.toList=some vs) (hi:l[i]? = some p)
    (hc:∀l' w,Mem w0 (p::l') w→Calls P f vs.toArray w fun e w'=>∃v p',e=.returned v∧R v p'∧Mem w0 (p'::l') w') (k:∀v p',R v p'→HL P N ops w0 (l.set i p') ((d,v)::env) rest Q):HL P N ops w0 l env ({ dst:=some d,op:=.call { callee:=.value (.func f),args:=xs,argTypes:=ats },type:=ty,pos:=pos,after:=af,guard:=gd } :: rest) Q:=fun a w st=>by
  obtain⟨r,h1, -⟩:=qO (p':=p) hi
  refine Ac (vs:=vs.toArray) rfl hN hw (fun a=>execOp_call_go a (some d) f xs ats ty pos af gd) (fun a w st=>?_) (fun w=>tS hgo _ w) (fun w hm=>(hc r w (hm.perm h1)).mono fun e w' h=>?_) a w st
  · have := oE st _ _ hvs
    rw[Array.empty_append,Array.append_empty]
    apply Array.toList_inj.1
    simpa using this
  · obtain ⟨v, p', rfl, hR, hm'⟩ := h
    have h2:(p'::r).Perm (l.set i p'):=by
      obtain⟨r',h3,h4⟩:=qO (p':=p') hi
      have:r.Perm r':=by
        have:=h1.symm.trans h3
        exact(List.perm_cons p).1 this
      exact(this.cons p').trans h4
    exact⟨v,_,rfl,hm'.perm h2,k v p' hR⟩
end
def pickE (env : List (Nat × Value)) : List Nat → List (Nat × Value) → Option (List (Nat × Value))
  | [],acc=>some acc
  | k::ks,acc=>match lk env k with
    | some v=>pickE env ks ((k,v)::acc)
    | none=>none
theorem bO {env env':List (Nat×Value)}:∀(ks:List Nat) (acc:List (Nat×Value)),sub acc env→pickE env ks acc=some env'→sub env' env
  | [],acc,hs,h=>by unfold pickE at h;cases h;exact hs
  | k::ks,acc,hs,h=>by
    unfold pickE at h
    split at h
    · rename_i v hl;exact bO ks _ (sub_cons hl hs) h
    · cases h
theorem aI {env env':List (Nat×Value)}(ks:List Nat) (h:pickE env ks []=some env'):sub env' env:=bO ks [] (aB _) h
theorem sk {env' env:List (Nat×Value)}(d:Nat) {v:Value}(h:lk env d=some v) (hs:sub env' env):sub ((d,v)::env') env:=sub_cons h hs
def evRun (ops : Array Oper) (N : Nat) : Nat → List Oper → List (Nat × Value) → Option (List (Nat × Value) × List Oper)
  | 0,os,env=>some (env,os)
  | _+1,[],_=>none
  | k+1,o::os,env=>match o.dst with
    | none=>none
    | some d=>bif Nat.blt d N then (match want ops env o.guard with
      | some true=>(match evOp env o.op with|some v=>evRun ops N k os ((d,v)::env)|none=>none)
      | some false=>evRun ops N k os ((d,undef)::env)
      | none=>none) else none
section
variable {P:Program}{N:Nat}{w0:World}{l l':List HP}{env env':List (Nat×Value)}{Q:Post}{o:Oper}{os:List Oper}
theorem iS {ops:Array Oper}{rest:List Oper}(ks:List Nat) (h:pickE env ks []=some env') (k:HL P N ops w0 l env' rest Q):HL P N ops w0 l env rest Q:=nZ (aI ks h) (.refl _) k
theorem Ad (c:Code) (ks:List Nat) (h:pickE env ks []=some env') (k:HC P N w0 l env' c Q):HC P N w0 l env c Q:=Fv c (aI ks h) (.refl _) k
theorem aM {ops : Array Oper} {rest : List Oper} : ∀ (k : Nat) {os : List Oper} {env : List (Nat × Value)}, evRun ops N k os env = some (env', rest) → HL P N ops w0 l env' rest Q → HL P N ops w0 l env os Q
  | 0,os,env,h,H=>by unfold evRun at h;cases h;exact H
  | k+1,[],env,h,H=>by unfold evRun at h;cases h
  | k+1,o::os,env,h,H=>by
    unfold evRun at h
    split at h
    · cases h
    · rename_i d hd
      cases hN:Nat.blt d N with
      | false=>rw[hN] at h;cases h
      | true=>
        rw[hN] at h
        simp only[cond_true] at h
        split at h
        · rename_i hw
          split at h
          · rename_i v hv
            exact mK hd hN hw (aK hv) (aM k h H)
          · cases h
        · rename_i hw
          exact Fu hd hN hw (aM k h H)
        · cases h
theorem bH {R:Value→List HP→Prop}(hs:sub env' env) (h:RunQ P N w0 l env' o R):RunQ P N w0 l env o R:=aW hs (.refl _) h
theorem rq_vE {v u:Value}(h:RunV P N w0 l env o v) (e:v=u):RunQ P N w0 l env o (fun x p=>x=u∧p=[]):=e▸aT h
theorem eQ {b c:Bool}(h:RunV P N w0 l env o (.bool b)) (hb:b=c):RunQ P N w0 l env o (fun v p=>v=.bool c∧p=[]):=hb▸aT h
theorem iH {b c:Bool}(h:RunQ P N w0 l env o (fun v p=>v=.bool b∧p=[])) (hb:b=c):RunQ P N w0 l env o (fun v p=>v=.bool c∧p=[]):=hb▸h
def envV (dsts:List Nat) (vals:List Value) (is:List Nat):List (Nat×Value):=is.map fun i=>(dsts.getD i 0,vals.getD i undef)
def ObV (P:Program) (ops:Array Oper) (N:Nat) (w0:World) (l:List HP) (env:List (Nat×Value)) (o:Oper) (v:Value):Prop:=
  (want ops env o.guard=some true∧RunQ P N w0 l env o (fun u p=>u=v∧p=[]))∨(want ops env o.guard=some false∧v=undef)
def DuesV (P:Program) (ops:Array Oper) (N:Nat) (w0:World) (l:List HP) (env:List (Nat×Value)) (dsts:List Nat) (vals:List Value):Nat→List (List Nat)→List Oper→Prop
  | _,_,[]=>True
  | k,[],o::os=>ObV P ops N w0 l env o (vals.getD k undef)∧DuesV P ops N w0 l env dsts vals (k+1) [] os
  | k,ds::dps,o::os=>ObV P ops N w0 l (envV dsts vals ds++env) o (vals.getD k undef)∧DuesV P ops N w0 l env dsts vals (k+1) dps os
theorem zR {ops:Array Oper}{v:Value}(h:ObV P ops N w0 l env o v):Obl P ops N w0 l env o (fun u p=>u=v∧p=[]):=by
  rcases h with h|⟨h1,h2⟩
  · exact .inl h
  · exact .inr ⟨h1,h2.symm,rfl⟩
theorem oW {ops:Array Oper}{dsts:List Nat}{vals:List Value}{all:List (List Nat)}:∀(os:List Oper) (dps:List (List Nat)) (k:Nat),DuesV P ops N w0 l env dsts vals k dps os→Dues P ops N w0 l env dsts all (fun i _ v p=>v=vals.getD i undef∧p=[]) k dps os
  | [],_,_,_=>by unfold Dues;trivial
  | o::os,[],k,h=>⟨fun _ _=>zR h.1,oW os [] (k+1) h.2⟩
  | o::os,ds::dps,k,h=>by
    refine⟨fun vf pf hR=>?_,oW os dps (k+1) h.2⟩
    have e1:ds.flatMap pf=[]:=List.flatMap_eq_nil_iff.2 (fun j hj=>(hR j hj).2)
    have e2:envOf dsts vf ds=envV dsts vals ds:=List.map_congr_left (fun j hj=>by rw[(hR j hj).1])
    rw[e1,e2,List.nil_append]
    exact zR h.1
end
def BRow (k:IntKind) (w:World) (a:Option Addr) (len cap:Nat) (zs:List Int):Prop:=
  (a=none∧len=0∧cap=0∧zs=[])∨
  ∃x,a=some x∧len≤cap∧cap≤maxLen∧zs.length=cap∧(∀i,i<zs.length→w.cell? (x.add i)=some (.int k (zs.getD i 0)))∧∀n∈zs,(Lit.int k n).wf=true
def cod (z:List Int) (len i:Nat):Nat:=if len=0 then 0 else (z.getD ((i*5+1) % len) 0).toNat
theorem Em {n:Int}(h:(Lit.int .u8 n).wf=true):0≤n∧n≤255:=by
  simp[Lit.wf,IntKind.min,IntKind.max,IntKind.signed,IntKind.bits] at h;omega
theorem BRow.len_le {k w a len cap zs}(h:BRow k w a len cap zs):len≤9223372036854775807:=by
  rcases h with⟨_,rfl,_⟩|⟨_,_,h1,h2,_⟩
  · omega
  · unfold maxLen at h2;omega
theorem BRow.at_facts {w a len cap zs}(h:BRow .u8 w a len cap zs) (hl:0<len) (j:Nat) (hj:j<len) :
    ∃b off,a=some ⟨b,off,none⟩∧w.cell? ⟨b,off+j,none⟩=some (.int .u8 (zs.getD j 0))∧0≤zs.getD j 0∧zs.getD j 0≤255:=by
  rcases h with⟨_,rfl,_⟩|⟨x,rfl,h1,h2,h3,h4,h5⟩
  · omega
  · obtain ⟨b, off, rfl, hc⟩ := ints_at h4 (by omega)
    refine⟨b,off,rfl,hc j (by omega),Em (h5 _ ?_)⟩
    exact Dz (by omega)
theorem Ei {w a len cap zs}(h:BRow .u8 w a len cap zs) (i:Nat):cod zs len i≤255:=by
  unfold cod
  split
  · omega
  · rename_i h0
    obtain⟨b,off,_,_,h2,h3⟩:=h.at_facts (by omega) ((i*5+1) % len) (Nat.mod_lt _ (by omega))
    omega
theorem Gh (a:Option Addr) (len cap:Nat) (w:World) (h:len≤9223372036854775807) :
    Calls Tryz.prog 4 #[.slice a len cap] w fun e w'=>e=.returned (.bool (decide (1048576<len)))∧w=w':=by
  go_enter Tryz.func4,Tryz.ntmps4
  go_wp2
  go_ret
  exact⟨nO (by rw[Bool.eq_iff_iff];simp;omega),rfl⟩
theorem Gc (z:List Int) (len i:Nat) (h:0<len):cod z len i=(z.getD ((i*5+1) % len) 0).toNat:=if_neg (by omega)
theorem at_any (a:Option Addr) (len cap:Nat) (z:List Int) (w:World) (h:BRow .u8 w a len cap z) (i:Nat) (hi:i≤1000000) :
    Calls Tryz.prog 10 #[.slice a len cap,.int .i64 (i:Int)] w fun e w'=>e=.returned (.int .i64 (cod z len i:Nat))∧w=w':=by
  have hlen:=h.len_le
  by_cases h0:len=0
  · subst h0
    clear h
    go_enter Tryz.func10,Tryz.ntmps10
    go_wp2
    go_ret
    exact⟨rfl,rfl⟩
  · have hp : 0 < len := by omega
    have hm:(i*5+1) % len<len:=Nat.mod_lt _ hp
    obtain⟨b,off,rfl,hc,r1,r2⟩:=h.at_facts hp ((i*5+1) % len) hm
    have hcod:=Lib.hid (Gc z len i hp)
    have h1:((len:Int)==0)=false:=by simp;omega
    have e1:((i:Int)*5+1) % (len:Int)=(((i*5+1) % len:Nat):Int):=by rw[Int.natCast_emod];rfl
    clear h h0
    generalize (i*5+1) % len=j at *
    generalize z.getD j 0=v at *
    go_enter Tryz.func10,Tryz.ntmps10
    go_wp2
    go_ret
    exact⟨xY (by rw[hcod.out];omega),rfl⟩
def i64ok (x:Int):Prop:=-9223372036854775808≤x∧x≤9223372036854775807
def IntS (w:World) (a:Option Addr) (n cap:Nat) (xs:List Int):Prop:=
  n=xs.length∧n≤9223372036854775807∧(∀x∈xs,i64ok x)∧
  (0<n→∃b off,a=some ⟨b,off,none⟩∧b<w.heap.size∧∀j,j<n→w.cell? ⟨b,off+j,none⟩=some (.int .i64 (xs.getD j 0)))
theorem tE (x m:Int) (h0:0≤m) (h1:m≤4611686018427387904):0≤bits BinOp.and IntKind.i64 x m∧bits BinOp.and IntKind.i64 x m≤m:=by
  obtain⟨k,rfl⟩:=Int.eq_ofNat_of_zero_le h0
  have e:(BitVec.ofInt 64 (k:Int)).toNat=k:=by rw[BitVec.ofInt_natCast,BitVec.toNat_ofNat];omega
  have hle:(BitVec.ofInt 64 x&&& BitVec.ofInt 64 (k:Int)).toNat≤k:=by
    rw[BitVec.toNat_and,e];exact Nat.and_le_right
  have:bits BinOp.and IntKind.i64 x (k:Int)=IntKind.i64.wrap (((BitVec.ofInt 64 x&&& BitVec.ofInt 64 (k:Int)).toNat:Nat):Int):=rfl
  rw[this,IntKind.wrap_i64]
  omega
theorem BRow.zlen {k w a len cap zs}(h:BRow k w a len cap zs):len≤zs.length:=by
  rcases h with⟨_,rfl,_,rfl⟩|⟨_,_,h1,_,h3,_⟩
  · exact Nat.le_refl _
  · omega
def Cur (w:World) (B g:Nat) (a:Option Addr) (len cap:Nat) (z:List Int):Prop:=
  (∃i:Nat,i≤len∧w.cell? ⟨g,1,none⟩=some (.int .i64 (i:Int)))∧(∃h:Int,w.cell? ⟨g,2,none⟩=some (.int .i64 h))∧
  w.cell? ⟨g,0,none⟩=some (.slice a len cap)∧w.frozen? ⟨g,1,none⟩=false∧w.frozen? ⟨g,2,none⟩=false∧BRow .u8 w a len cap z∧B≤g∧(∀x,a=some x→0<z.length→x.block<B)
theorem BRow.grown {k w w1 a len cap zs}{row:Option Nat}(h:BRow k w a len cap zs) (hg:w.grownBy w1 row) (hne:∀x,a=some x→0<zs.length→some x.block≠row):BRow k w1 a len cap zs:=by
  rcases h with h|⟨x,rfl,h1,h2,h3,h4,h5⟩
  · exact .inl h
  · exact .inr ⟨x,rfl,h1,h2,h3,fun i hi=>hg.cell (h4 i hi) (by have:=hne x rfl (by omega);unfold Addr.add;split<;>simpa using this),h5⟩
theorem jY {w w1 w2:World}{row:Option Nat}(h1:w.grownBy w1 row) (h2:w1.grownBy w2 row):w.grownBy w2 row:=
  ⟨h2.os.trans h1.os,h2.tape.trans h1.tape,h2.output.trans h1.output,Nat.le_trans h1.size h2.size,fun k hk hne=>(h2.block k (Nat.lt_of_lt_of_le hk h1.size) hne).trans (h1.block k hk hne)⟩
theorem kJ (w:World) (g o:Nat) (v:Value):w.grownBy (w.setCell ⟨g,o,none⟩ v) (some g):=
  ⟨rfl,rfl,rfl,by simp[World.setCell],fun k _ hne=>Below.heap_setCell w _ v k (fun h=>hne (by rw[h]))⟩
theorem iJ (w:World) (n:Nat) (row:Option Nat):w.grownBy (w.drewN n) row:=⟨rfl,rfl,rfl,Nat.le_refl _,fun _ _ _=>rfl⟩
theorem rA {w w1:World}(h:Below w.heap.size w w1) (row:Option Nat):w.grownBy w1 row:=⟨h.os,h.tape,h.output,h.size,fun k hk _=>h.block k hk⟩
def RetLt (n:Nat) (e:Ending):Prop:=∃x:Nat,x<n∧e=.returned (.int .i64 (x:Int))
theorem RetLt.of_and (x:Int):RetLt 256 (.returned (.int .i64 (bits BinOp.and IntKind.i64 x 255))):=by
  obtain⟨h1,h2⟩:=tE x 255 (by omega) (by omega)
  exact⟨(bits BinOp.and IntKind.i64 x 255).toNat,by omega,xY (by omega)⟩
theorem lX {w:World}{g o o':Nat}{v:Value}(h:o≠o'):(w.setCell ⟨g,o,none⟩ v).cell? ⟨g,o',none⟩=w.cell? ⟨g,o',none⟩:=by
  apply World.cell?_setCell_other
  intro e;exact h (congrArg Addr.off e)
theorem vL {w:World}{p:Addr}{u v:Value}(h:w.cell? p=some u):(w.setCell p v).cell? p=some v:=by
  apply World.cell?_setCell_same;exact h
theorem Gv {w:World}{B g:Nat}{a:Option Addr}{len cap:Nat}{z:List Int}{i:Nat}(hi:i≤len) (hci:w.cell? ⟨g,1,none⟩=some (.int .i64 (i:Int))) {h:Int}(hch:w.cell? ⟨g,2,none⟩=some (.int .i64 h))
    (hcb:w.cell? ⟨g,0,none⟩=some (.slice a len cap)) (hf1:w.frozen? ⟨g,1,none⟩=false) (hf2:w.frozen? ⟨g,2,none⟩=false) (hrow:BRow .u8 w a len cap z) (hBg:B≤g) (hne:∀x,a=some x→0<z.length→x.block<B) (h':Int) (n:Nat) :
    Cur ((w.setCell ⟨g,2,none⟩ (.int .i64 h')).drewN n) B g a len cap z:=by
  refine⟨⟨i,hi,?_⟩,⟨h',?_⟩,?_,?_,?_,?_,hBg,hne⟩
  · rw[World.cell?_drewN,lX (by decide)];exact hci
  · rw[World.cell?_drewN,vL hch]
  · rw[World.cell?_drewN,lX (by decide)];exact hcb
  · exact(World.frozen?_setCell ..).trans hf1
  · exact(World.frozen?_setCell ..).trans hf2
  · exact(hrow.grown (kJ w g 2 _) (fun x hx hp=>by have:=hne x hx hp;simp;omega)).grown (iJ _ n none) (fun _ _ _=>by simp)
theorem cur_i {w:World}{B g:Nat}{a:Option Addr}{len cap:Nat}{z:List Int}(hc:Cur w B g a len cap z) {i:Nat}(hi:i<len):Cur (w.setCell ⟨g,1,none⟩ (.int .i64 ((i:Int)+1))) B g a len cap z:=by
  obtain⟨⟨j,hj,hci⟩,⟨h,hch⟩,hcb,hf1,hf2,hrow,hBg,hne⟩:=hc
  refine⟨⟨i+1,hi,?_⟩,⟨h,?_⟩,?_,?_,?_,?_,hBg,hne⟩
  · rw[vL hci];rfl
  · rw[lX (by decide)];exact hch
  · rw[lX (by decide)];exact hcb
  · exact(World.frozen?_setCell ..).trans hf1
  · exact(World.frozen?_setCell ..).trans hf2
  · exact hrow.grown (kJ w g 1 _) (fun x hx hp=>by have:=hne x hx hp;simp;omega)
theorem Bz {w:World}{B g:Nat}{a:Option Addr}{len cap:Nat}{z:List Int}(hc:Cur w B g a len cap z) (n:Nat):Cur (w.drewN n) B g a len cap z:=by
  obtain⟨h1,h2,h3,h4,h5,h6,h7,h8⟩:=hc
  exact⟨h1,h2,h3,h4,h5,h6.grown (iJ _ n none) (fun _ _ _=>by simp),h7,h8⟩
theorem pF (B g:Nat) (a:Option Addr) (len cap:Nat) (z:List Int) (w:World) (hc:Cur w B g a len cap z) :
    Calls Tryz.prog 75 #[.pointer (some ⟨g,0,none⟩)] w fun e w'=>RetLt 256 e∧Cur w' B g a len cap z∧w.grownBy w' (some g):=by
  obtain⟨⟨i,hi,hci⟩,⟨h,hch⟩,hcb,hf1,hf2,hrow,hBg,hne⟩:=hc
  have hlen:=hrow.len_le
  by_cases hlt:i<len
  · obtain ⟨b, off, rfl, hcell, r1, r2⟩ := hrow.at_facts (by omega) i hlt
    have hzl:=hrow.zlen
    have hnb:b≠g:=by have:b<B:=hne _ rfl (by omega);omega
    have Hrow:=Lib.hid hrow
    have Hne:=Lib.hid hne
    clear hrow hne
    generalize z.getD i 0=v at *
    go_enter Tryz.func75,Tryz.ntmps75
    go_wp2
    generalize wrap64 (wrap64 (h*6364136223846793005)+1442695040888963407)=h' at *
    go_quiet (fail)
    go_wp2
    go_quiet (fail)
    go_wp2
    go_quiet (fail)
    go_wp2
    go_ret
    refine⟨RetLt.of_and _,?_,?_⟩
    · refine cur_i ?_ hlt
      exact Gv hi hci hch hcb hf1 hf2 Hrow.out hBg Hne.out _ _
    · exact jY (jY (kJ w g 2 _) (iJ _ _ _)) (kJ _ g 1 _)
  · have hil : i = len := by omega
    subst hil
    have Hrow:=Lib.hid hrow
    have Hne:=Lib.hid hne
    clear hrow hne hlt
    go_enter Tryz.func75,Tryz.ntmps75
    go_wp2
    generalize wrap64 (wrap64 (h*6364136223846793005)+1442695040888963407)=h' at *
    go_quiet (fail)
    go_wp2
    go_quiet (fail)
    go_wp2
    go_ret
    exact⟨RetLt.of_and _,Bz (Gv hi hci hch hcb hf1 hf2 Hrow.out hBg Hne.out _ _) _,jY (jY (kJ w g 2 _) (iJ _ _ _)) (iJ _ _ _)⟩
theorem uI (B g:Nat) (a:Option Addr) (len cap:Nat) (z:List Int) (n:Int) (h1:1≤n) (h2:n≤256) (w:World) (hc:Cur w B g a len cap z) :
    Calls Tryz.prog 34 #[.pointer (some ⟨g,0,none⟩),.int .i64 n] w fun e w'=>RetLt n.toNat e∧Cur w' B g a len cap z∧w.grownBy w' (some g):=by
  have C:=Lib.hid (pF B g a len cap z w hc)
  clear hc
  go_enter Tryz.func34,Tryz.ntmps34
  go_wp2_with fail
  refine C.out.mono ?_
  rintro e w1 ⟨⟨x,hx,rfl⟩,hc1,hg1⟩
  have Hc:=Lib.hid hc1
  have Hg:=Lib.hid hg1
  clear hc1 hg1
  go_wp2
  go_ret
  refine⟨⟨((x:Int) % n).toNat,?_,xY ?_⟩,Hc.out,Hg.out⟩
  · have:=Int.emod_lt_of_pos (x:Int) (show 0<n by omega);omega
  · have:=Int.emod_nonneg (x:Int) (show n≠0 by omega);omega
def RetBool (e:Ending):Prop:=∃b:Bool,e=.returned (.bool b)
theorem wH (B g:Nat) (a:Option Addr) (len cap:Nat) (z:List Int) (n:Int) (h1:1≤n) (h2:n≤256) (w:World) (hc:Cur w B g a len cap z) :
    Calls Tryz.prog 81 #[.pointer (some ⟨g,0,none⟩),.int .i64 n] w fun e w'=>RetBool e∧Cur w' B g a len cap z∧w.grownBy w' (some g):=by
  have C:=Lib.hid (uI B g a len cap z n h1 h2 w hc)
  clear hc
  go_enter Tryz.func81,Tryz.ntmps81
  go_wp2_with fail
  refine C.out.mono ?_
  rintro e w1 ⟨⟨x,hx,rfl⟩,hc1,hg1⟩
  have Hc:=Lib.hid hc1
  have Hg:=Lib.hid hg1
  clear hc1 hg1
  go_wp2
  go_ret
  exact⟨⟨_,rfl⟩,Hc.out,Hg.out⟩
theorem BRow.below {k w w1 a len cap zs}(h:BRow k w a len cap zs) (hb:Below w.heap.size w w1):BRow k w1 a len cap zs:=h.grown (rA hb none) (fun _ _ _=>by simp)
theorem BRow.old {k w a len cap zs}(h:BRow k w a len cap zs):∀x,a=some x→0<zs.length→x.block<w.heap.size:=by
  rcases h with⟨rfl,_⟩|⟨x,rfl,h1,h2,h3,h4,h5⟩
  · intro x hx;cases hx
  · intro y hy hp
    cases hy
    have:=h4 0 hp
    have e:x.add 0=x:=by simp[Addr.add]
    rw[e] at this
    exact World.block_lt_of_cell? _ _ this
theorem zV {a:Option Addr}{len cap:Nat}{z:List Int}(w:World) (hb:BRow .u8 w a len cap z) (h:Int) :
    ∃ g, Ending.returned (.pointer (some ⟨w.heap.size, 0, none⟩)) = .returned (.pointer (some ⟨g, 0, none⟩)) ∧
      Cur (w.alloc (.cells #[.slice a len cap,.int .i64 0,.int .i64 h] 70)) w.heap.size g a len cap z∧Below w.heap.size w (w.alloc (.cells #[.slice a len cap,.int .i64 0,.int .i64 h] 70)):=by
  refine⟨_,rfl,⟨⟨0,by omega,?_⟩,⟨h,?_⟩,?_,?_,?_,hb.below (kM (Below.refl _ _) _),Nat.le_refl _,?_⟩,kM (Below.refl _ _) _⟩
  · rw[World.cell?_alloc_at _ _ _ _ rfl];rfl
  · rw[World.cell?_alloc_at _ _ _ _ rfl];rfl
  · rw[World.cell?_alloc_at _ _ _ _ rfl];rfl
  · exact World.frozen?_alloc_at _ _ _ _ rfl
  · exact World.frozen?_alloc_at _ _ _ _ rfl
  · intro x hx hp
    exact hb.old x hx hp
theorem yQ (a : Option Addr) (len cap : Nat) (z : List Int) (w : World) (hlen : len ≤ 1048576) (hb : BRow .u8 w a len cap z) :
    Calls Tryz.prog 15 #[.slice a len cap] w fun e w'=>∃g,e=.returned (.pointer (some ⟨g,0,none⟩))∧Cur w' w.heap.size g a len cap z∧Below w.heap.size w w':=by
  go_enter Tryz.func15,Tryz.ntmps15
  go_wp2
  go_loop [3,4] (fun h i=>∃(k:Nat) (x:Int),k≤len∧i=.int .i64 (k:Int)∧h=.int .i64 x∧0≤x∧x≤1073741823) (fun _ i=>len-(intOf i).toNat)
  case atStart=>exact⟨0,33117+(len:Int),by omega,rfl,rfl,by omega,by omega⟩
  case round=>
    obtain⟨k,x,hk,rfl,rfl,x0,x1⟩:=hrel
    by_cases hlt:k<len
    · by_cases h4 : k < 4000
      · obtain ⟨b, off, rfl, hcell, r1, r2⟩ := hb.at_facts (by omega) k hlt
        have Hb:=Lib.hid hb
        clear hb
        generalize z.getD k 0=v at *
        go_wp2
        have hr:=tE (x*131+v+7) 1073741823 (by omega) (by omega)
        go_round
        case rel=>exact⟨k+1,_,by omega,by go_num,rfl,hr.1,hr.2⟩
        case measure=>simp[intOf];omega
      · have hT : decide ((k : Int) < 4000) = false := by simp; omega
        have Hb:=Lib.hid hb
        clear hb
        go_wp2
        go_ret
        exact zV w Hb.out _
    · have hT : decide ((k : Int) < (len : Int)) = false := by simp; omega
      have Hb:=Lib.hid hb
      clear hb
      go_wp2
      go_ret
      exact zV w Hb.out _
theorem Cur.lt {w:World}{B g:Nat}{a:Option Addr}{len cap:Nat}{z:List Int}(h:Cur w B g a len cap z):g<w.heap.size:=World.block_lt_of_cell? _ _ h.2.2.1
theorem Cur.base {w:World}{B g:Nat}{a:Option Addr}{len cap:Nat}{z:List Int}(h:Cur w B g a len cap z):B≤g:=h.2.2.2.2.2.2.1
section
variable {P:Program}{N:Nat}{w0:World}{l l':List HP}{env:List (Nat×Value)}{Q:Post}{o:Oper}{ops:Array Oper}{rest:List Oper}
theorem bA {p:Value→Prop}:∀u∈([]:List Value),p u:=fun _ h=>by cases h
theorem aA {p:Value→Prop}{a:Value}{us:List Value}(h:p a) (hs:∀u∈us,p u):∀u∈a::us,p u:=fun u hu=>by
  rcases List.mem_cons.1 hu with rfl|hu
  · exact h
  · exact hs u hu
def putN (cs:Array Value) (off:Nat):List Value→Array Value
  | []=>cs
  | u::us=>putN (cs.setIfInBounds off u) (off+1) us
theorem kB {α:Type}{l:List α}{i:Nat}{p:α}(h:l[i]? = some p):l.set i p=l:=by
  apply List.ext_getElem?
  intro j
  rw[List.getElem?_set]
  split
  · rename_i e; subst e
    split
    · exact h.symm
    · rename_i hj;rw[List.getElem?_eq_none (by omega)] at h;cases h
  · rfl
theorem mX {b off:Nat}{tb:TypeId}{i:Nat}:∀(us:List Value) (k:Nat) (cs:Array Value) (l:List HP) (w:World),Mem w0 l w→l[i]? = some (boxE b cs tb)→(∀u∈us,u.oneCell'=true)→off+k+us.length≤cs.size→
    ∃w',(storeCells ⟨b,off,none⟩ us k).run P w=.ok () w'∧Mem w0 (l.set i (boxE b (putN cs (off+k) us) tb)) w'
  | [],k,cs,l,w,hm,hi,_,_=>⟨w,rfl,by rw[putN,kB hi];exact hm⟩
  | u::us,k,cs,l,w,hm,hi,h1,hlt=>by
    have hlen:(u::us).length=us.length+1:=rfl
    have hb:w.heap[b]? = some (.cells cs tb (0,0)):=hm.holds _ (bX hi)
    have hst:=run_store P w ⟨b,off+k,none⟩ u .plain (h1 u List.mem_cons_self)
    have hc:w.cell? ⟨b,off+k,none⟩=some (cs[off+k]'(by omega)):=by rw[jH hb];exact Array.getElem?_eq_getElem (by omega)
    rw[hc] at hst
    simp only[lR hb] at hst
    have hil:i<l.length:=by
      rcases Nat.lt_or_ge i l.length with h|h
      · exact h
      · rw[List.getElem?_eq_none h] at hi;cases hi
    obtain⟨w',hr,hm'⟩:=mX (off:=off) us (k+1) (cs.setIfInBounds (off+k) u) (l.set i (boxE b (cs.setIfInBounds (off+k) u) tb)) (w.setCell ⟨b,off+k,none⟩ u) (hm.setBox hi (off+k) u) (List.getElem?_set_self hil) (fun x hx=>h1 x (List.mem_cons_of_mem _ hx)) (by rw[Array.size_setIfInBounds];omega)
    refine⟨w',?_,?_⟩
    · rw [storeCells, jK]
      simp[hst,hr]
    · rw [List.set_set] at hm'
      rw[putN];exact hm'
theorem uJ {t b off i:Nat}{x y:Operand}{cs cs':Array Value}{tb:TypeId}{us:List Value}(hd:o.dst=none) (hw:want ops env o.guard=some true) (ho:o.op=.store t x y) (hs:(P.info? t).map (·.size)=some us.length)
    (hx:ev env x=some (.pointer (some ⟨b,off,none⟩))) (hy:ev env y=some (.agg us.toArray)) (hi:l[i]? = some (boxE b cs tb)) (h1:∀u∈us,u.oneCell'=true) (hlt:Nat.ble (off+us.length) cs.size=true) (hcs:putN cs off us=cs')
    (hl':l.set i (boxE b cs' tb)=l') (k:HL P N ops w0 l' env rest Q):HL P N ops w0 l env (o::rest) Q:=by
  subst hl' hcs
  exact mC hd hw (fun a w st=>by
    rw[Nat.ble_eq] at hlt
    obtain⟨w',hr,hm⟩:=mX (P:=P) (off:=off) us 0 cs l w st.mem hi h1 (by omega)
    refine⟨w',?_,hm⟩
    have hce:(Value.agg us.toArray).cells=us.toArray:=rfl
    simp[execOp,ho,st.eval hx,st.eval hy,Instr.storeAt,Instr.sureAddr,storeVar,hce,gQ hs,hr]) k
theorem bV {fn:Func}{R:Value→List HP→Prop}{rs:List ResultVar}{vs:List Value}{v:Value}{post:List HP}(hr:fn.results=rs.toArray) (hv:AllIs P w0 l env rs vs) (ht:tupled vs=v) (hl:post.Sublist l) (h:R v post):HQ N w0 l env .ret (bodyPost P fn (Ret w0 R)):=
  eG hr hv ht (fun w hm=>⟨v,post,by rw[←ht],h,hm.sub hl⟩)
end
theorem Eq {w0:World}{l:List HP}{a:Option Addr}{len cap:Nat}{z:List Int}(h:BRow .u8 w0 a len cap z) (i:Nat) (hi:i≤1000000) (w:World) (hm:Mem w0 l w) :
    Calls Tryz.prog 10 #[.slice a len cap,.int .i64 (i:Int)] w (Ans w (.int .i64 (cod z len i:Nat))):=gP (at_any a len cap z w (h.below hm.bel) i hi)
def bigE (ps:List HP):HP:=⟨fun k=>∃p∈ps,p.foot k,fun w=>(∀p∈ps,p.Ok∧p.holds w)∧ps.Pairwise HP.apart⟩
theorem Gi (ps:List HP):(bigE ps).Ok:=fun w w' hs hb h=>⟨fun p hp=>⟨(h.1 p hp).1,(h.1 p hp).1 w w' hs (fun b hf=>hb b ⟨p,hp,hf⟩) (h.1 p hp).2⟩,h.2⟩
theorem Mem.big {w0 w:World}{ps l:List HP}(h:Mem w0 (ps++l) w):Mem w0 (bigE ps::l) w:=by
  obtain⟨a1,a2,a3⟩:=List.pairwise_append.1 h.apart
  refine⟨h.bel,fun p hp=>?_,fun p hp=>?_,fun p hp b hf=>?_,?_⟩
  · rcases List.mem_cons.1 hp with rfl | hp
    · exact⟨fun p hp=>⟨h.ok p (List.mem_append_left _ hp),h.holds p (List.mem_append_left _ hp)⟩,a1⟩
    · exact h.holds p (List.mem_append_right _ hp)
  · rcases List.mem_cons.1 hp with rfl | hp
    · exact Gi ps
    · exact h.ok p (List.mem_append_right _ hp)
  · rcases List.mem_cons.1 hp with rfl | hp
    · obtain ⟨q, hq, hf⟩ := hf
      exact h.new q (List.mem_append_left _ hq) b hf
    · exact h.new p (List.mem_append_right _ hp) b hf
  · refine List.pairwise_cons.2 ⟨fun q hq b hf hg => ?_, a2⟩
    obtain⟨p,hp,hf⟩:=hf
    exact a3 p hp q hq b hf hg
theorem Mem.unbig {w0 w:World}{ps l:List HP}(h:Mem w0 (bigE ps::l) w):Mem w0 (ps++l) w:=by
  obtain⟨b1,b2⟩:=h.holds _ List.mem_cons_self
  obtain⟨a1,a2⟩:=List.pairwise_cons.1 h.apart
  refine⟨h.bel,fun p hp=>?_,fun p hp=>?_,fun p hp b hf=>?_,?_⟩
  · rcases List.mem_append.1 hp with hp | hp
    · exact(b1 p hp).2
    · exact h.holds p (List.mem_cons_of_mem _ hp)
  · rcases List.mem_append.1 hp with hp | hp
    · exact(b1 p hp).1
    · exact h.ok p (List.mem_cons_of_mem _ hp)
  · rcases List.mem_append.1 hp with hp | hp
    · exact h.new _ List.mem_cons_self b ⟨p,hp,hf⟩
    · exact h.new p (List.mem_cons_of_mem _ hp) b hf
  · exact List.pairwise_append.2 ⟨b2,a2,fun p hp q hq b hf hg=>a1 q hq b ⟨p,hp,hf⟩ hg⟩
def Conv (w0:World) (l l':List HP):Prop:=∀w,Mem w0 l w→Mem w0 l' w
theorem fN {w0:World}{ps l:List HP}:Conv w0 (ps++l) (bigE ps::l):=fun w hm=>hm.big
theorem gD {w0:World}{ps l:List HP}:Conv w0 (bigE ps::l) (ps++l):=fun w hm=>hm.unbig
theorem nC {α:Type}:∀(ps:List α) (j:Nat) (p:α),ps[j]? = some p→ps.Perm (p::ps.eraseIdx j)
  | [],j,p,h=>by simp at h
  | a::ps,0,p,h=>by simp at h;subst h;exact .refl _
  | a::ps,j+1,p,h=>by
    have:=nC ps j p (by simpa using h)
    exact(this.cons a).trans (.swap _ _ _)
section
variable {P:Program}{N:Nat}{w0:World}{l l':List HP}{env:List (Nat×Value)}{Q:Post}{o:Oper}{ops:Array Oper}{rest:List Oper}
theorem jE (l':List HP) (h:Conv w0 l l') (k:HL P N ops w0 l' env rest Q):HL P N ops w0 l env rest Q:=fun a w st=>k a w (st.to (h w st.mem))
theorem fE (l':List HP) {c:Code}(h:Conv w0 l l') (k:HC P N w0 l' env c Q):HC P N w0 l env c Q:=fun a w st=>k a w (st.to (h w st.mem))
theorem cZ (l':List HP) {e:Exit}(h:Conv w0 l l') (k:HQ N w0 l' env e Q):HQ N w0 l env e Q:=fun a w st=>k a w (st.to (h w st.mem))
theorem fW {f:FuncId}{fn:Func}{c:Code}{args:List Value}{w:World}{R:Ending→World→Prop}(hf:P.funcs[f]? = some fn) (hb:fn.body=some c) (hN:(fn.ntmps==N&&Nat.ble args.length N)=true)
    (hm:Mem w0 l w) (h:HC P N w0 l (args.zipIdx.map fun p=>(p.2,p.1)) c (bodyPost P fn R)):Calls P f args.toArray w R:=by
  simp only[Bool.and_eq_true,beq_iff_eq,Nat.ble_eq] at hN
  refine calls_of_wp hf hb (h _ w ⟨hm,?_,rfl,fun d v hd=>?_⟩)
  · simp;omega
  · have hm := yM hd
    rw[List.mem_map] at hm
    obtain⟨p,hp,he⟩:=hm
    have:=List.mem_zipIdx_iff_getElem?.1 hp
    simp only[Prod.mk.injEq] at he
    obtain⟨rfl,rfl⟩:=he
    have hlt:p.2<args.length:=(List.getElem?_eq_some_iff.1 this).1
    rw[Array.getElem?_append_left (by simpa using hlt)]
    simpa using this
theorem gZ {fn:Func}{R:Value→HP→Prop}{t:Tmp}{v:Value}{p':HP}{L:List HP}(hr:fn.results=#[.tmp t]) (hv:lk env t=some v) (hl:(p'::L).Sublist l) (h:R v p'):HQ N w0 l env .ret (bodyPost P fn (fun e w'=>∃v p',e=.returned v∧R v p'∧Mem w0 (p'::L) w')):=
  eG (rs:=[.tmp t]) (vs:=[v]) hr ⟨hv,trivial⟩ rfl (fun w hm=>⟨v,p',rfl,h,hm.sub hl⟩)
end
theorem rC {α:Type}(f:α→List Value) (s:Nat) (hs:∀a,(f a).length=s):∀(es:List α),(es.flatMap f).length=es.length*s
  | []=>by simp
  | a::es=>by rw[List.flatMap_cons,List.length_append,hs,rC f s hs es,List.length_cons,Nat.add_mul];omega
theorem dE {α:Type}(f:α→List Value) (s:Nat) (hs:∀a,(f a).length=s):∀(es:List α) (d:α) {i k:Nat},i<es.length→k<s→(es.flatMap f)[i*s+k]? = (f (es.getD i d))[k]?
  | [],d,i,k,hi,hk=>by simp at hi
  | a::es,d,0,k,hi,hk=>by
    rw[List.flatMap_cons,Nat.zero_mul,Nat.zero_add,List.getElem?_append_left (by rw[hs];exact hk)];rfl
  | a::es,d,i+1,k,hi,hk=>by
    rw[List.flatMap_cons,List.getElem?_append_right (by rw[hs,Nat.add_mul];omega),hs,show(i+1)*s+k-s=i*s+k by rw[Nat.add_mul];omega,
      dE f s hs es d (by simpa using hi) hk]
    rfl
theorem fC {α:Type}(f:α→List Value) (s:Nat) (hs:∀a,(f a).length=s) (es:List α) (d:α) {i:Nat}{us:List Value}(hi:i<es.length) (hu:f (es.getD i d)=us):∀j u,us[j]? = some u→(es.flatMap f)[i*s+j]? = some u:=fun j u hj=>by
  have hl:j<us.length:=(List.getElem?_eq_some_iff.1 hj).1
  rw[dE f s hs es d hi (by rw[←hu,hs] at hl;exact hl),hu];exact hj
theorem oB {α:Type}(f:α→List Value) (s:Nat) (hs:∀a,(f a).length=s):∀(es:List α) (d e':α) {i k:Nat}{u:Value},i<es.length→k<s→(f (es.getD i d)).set k u=f e'→(es.flatMap f).set (i*s+k) u=(es.set i e').flatMap f
  | [],d,e',i,k,u,hi,hk,h=>by simp at hi
  | a::es,d,e',0,k,u,hi,hk,h=>by
    rw[List.flatMap_cons,Nat.zero_mul,Nat.zero_add,List.set_append_left _ _ (by rw[hs];exact hk)]
    show(f a).set k u++_=_
    rw[show(f a).set k u=f e' from h];rfl
  | a::es,d,e',i+1,k,u,hi,hk,h=>by
    rw[List.flatMap_cons,List.set_append_right _ _ (by rw[hs,Nat.add_mul];omega),hs,show(i+1)*s+k-s=i*s+k by rw[Nat.add_mul];omega,
      oB f s hs es d e' (by simpa using hi) hk h]
    rfl
theorem dO {α:Type}{es:List α}{i:Nat}{d:α}(h:i<es.length):es.getD i d∈es:=by
  rw[List.getD_eq_getElem?_getD,List.getElem?_eq_getElem h];exact List.getElem_mem h
theorem eR {α:Type}{es:List α}{i:Nat}{d e:α}(h:i<es.length):(es.set i e).getD i d=e:=by
  rw[List.getD_eq_getElem?_getD,List.getElem?_set_self h];rfl
theorem gY (n:Nat):(madeCells (Value.int .i64 0).cells ((List.replicate n (0:Int)).length*1)).toList=(List.replicate n (0:Int)).map (Value.int .i64):=by
  rw[List.length_replicate,Nat.mul_one,List.map_replicate]
  exact toList_madeCells_one _ _
theorem Ca {w0:World}{src dst l:List HP}(is:List Nat) (hn:is.Nodup) (h:is.map (src[·]?)=dst.map some):Conv w0 (src++l) (dst++l):=by
  intro w hm
  obtain⟨a1,a2,a3⟩:=List.pairwise_append.1 hm.apart
  have hl:is.length=dst.length:=by simpa using congrArg List.length h
  have hat:∀t (ht:t<dst.length),src[is[t]'(by omega)]? = some (dst[t]):=by
    intro t ht
    have:=congrArg (fun (x:List (Option HP))=>x[t]?) h
    simp only[List.getElem?_map,List.getElem?_eq_getElem ht,List.getElem?_eq_getElem (show t<is.length by omega),Option.map_some] at this
    exact Option.some.inj this
  have hmem:∀p∈dst,p∈src:=by
    intro p hp
    obtain⟨t,ht,rfl⟩:=List.mem_iff_getElem.1 hp
    exact List.mem_of_getElem? (hat t ht)
  refine⟨hm.bel,fun p hp=>?_,fun p hp=>?_,fun p hp b hf=>?_,?_⟩
  · rcases List.mem_append.1 hp with hp | hp
    · exact hm.holds p (List.mem_append_left _ (hmem p hp))
    · exact hm.holds p (List.mem_append_right _ hp)
  · rcases List.mem_append.1 hp with hp | hp
    · exact hm.ok p (List.mem_append_left _ (hmem p hp))
    · exact hm.ok p (List.mem_append_right _ hp)
  · rcases List.mem_append.1 hp with hp | hp
    · exact hm.new p (List.mem_append_left _ (hmem p hp)) b hf
    · exact hm.new p (List.mem_append_right _ hp) b hf
  · refine List.pairwise_append.2 ⟨?_, a2, fun p hp q hq => a3 p (hmem p hp) q hq⟩
    rw[List.pairwise_iff_getElem]
    intro i j hi hj hij
    obtain⟨hi',ei⟩:=List.getElem?_eq_some_iff.1 (hat i hi)
    obtain⟨hj',ej⟩:=List.getElem?_eq_some_iff.1 (hat j hj)
    have hne:is[i]'(by omega)≠is[j]'(by omega):=(List.pairwise_iff_getElem.1 hn) i j (by omega) (by omega) hij
    have key:=List.pairwise_iff_getElem.1 a1
    rw[←ei,←ej]
    rcases Nat.lt_or_gt_of_ne hne with hlt|hlt
    · exact key _ _ hi' hj' hlt
    · exact HP.apart_symm (key _ _ hj' hi' hlt)
def putL (xs:List Value) (o:Nat):List Value→List Value
  | []=>xs
  | u::us=>putL (xs.set o u) (o+1) us
theorem vQ:∀(us pre A:List Value),us.length≤A.length→putL (pre++A) pre.length us=pre++us++A.drop us.length
  | [],pre,A,_=>by simp[putL]
  | u::us,pre,[],h=>by simp at h
  | u::us,pre,a::A,h=>by
    have:=vQ us (pre++[u]) A (by simpa using h)
    rw[putL,List.set_append_right _ _ (Nat.le_refl _),Nat.sub_self,List.set_cons_zero]
    rw[show pre++u::A=(pre++[u])++A by simp,show pre.length+1=(pre++[u]).length by simp,this]
    simp
theorem Ea {α:Type}(f:α→List Value) (s:Nat) (hs:∀a,(f a).length=s) (es:List α) (e':α) {i:Nat}(hi:i<es.length):putL (es.flatMap f) (i*s) (f e')=(es.set i e').flatMap f:=by
  have h1:es=es.take i++es[i]::es.drop (i+1):=by rw[←List.drop_eq_getElem_cons hi,List.take_append_drop]
  have h2:(es.take i).flatMap f=((es.take i).flatMap f):=rfl
  have hl:((es.take i).flatMap f).length=i*s:=by rw[rC f s hs,List.length_take];congr 1;omega
  have h3:es.set i e'=es.take i++e'::es.drop (i+1):=by rw[List.set_eq_take_append_cons_drop,if_pos hi]
  rw[h3]
  conv=>lhs;rw[h1]
  rw[List.flatMap_append,List.flatMap_cons,List.flatMap_append,List.flatMap_cons,←hl,vQ _ _ _ (by rw[List.length_append,hs,hs];omega),List.drop_left' (by rw[hs,hs]),List.append_assoc]
section
variable {P:Program}{N:Nat}{w0:World}{l l':List HP}{env:List (Nat×Value)}{Q:Post}{o:Oper}{ops:Array Oper}{rest:List Oper}
theorem qK {g e size n cap:Nat}{i:Nat}{j:Nat}:∀(us:List Value) (k:Nat) (xs:List Value) (l:List HP) (w:World),Mem w0 l w→l[i]? = some (rowE e size (.slice (some ⟨g,0,none⟩) n cap) n xs)→(∀u∈us,u.oneCell'=true)→j+k+us.length≤n*size→
    ∃w',(storeCells ⟨g,j,none⟩ us k).run P w=.ok () w'∧Mem w0 (l.set i (rowE e size (.slice (some ⟨g,0,none⟩) n cap) n (putL xs (j+k) us))) w'
  | [],k,xs,l,w,hm,hi,_,_=>⟨w,rfl,by rw[putL,kB hi];exact hm⟩
  | u::us,k,xs,l,w,hm,hi,h1,hlt=>by
    have hlen:(u::us).length=us.length+1:=rfl
    have hb:w.ownsRow 0 e size (.slice (some ⟨g,0,none⟩) n cap) n xs:=hm.holds _ (bX hi)
    have hst:=run_store P w ⟨g,j+k,none⟩ u .plain (h1 u List.mem_cons_self)
    rw[hb.cellAt (j+k) (by omega),List.getElem?_eq_getElem (by rw[hb.1];omega)] at hst
    simp only[hb.frozenAt (j+k)] at hst
    have hil:i<l.length:=by
      rcases Nat.lt_or_ge i l.length with h|h
      · exact h
      · rw[List.getElem?_eq_none h] at hi;cases hi
    obtain⟨w',hr,hm'⟩:=qK (j:=j) us (k+1) (xs.set (j+k) u) (l.set i (rowE e size (.slice (some ⟨g,0,none⟩) n cap) n (xs.set (j+k) u))) (w.setCell ⟨g,j+k,none⟩ u) (hm.setRow hi (j+k) u) (List.getElem?_set_self hil) (fun x hx=>h1 x (List.mem_cons_of_mem _ hx)) (by omega)
    refine⟨w',?_,?_⟩
    · rw [storeCells, jK]
      simp[hst,hr]
    · rw [List.set_set] at hm'
      rw[putL];exact hm'
theorem wK {t i e size n j:Nat}{x y:Operand}{xs:List Value}{v:Value}{us:List Value}(hd:o.dst=none) (hw:want ops env o.guard=some true) (ho:o.op=.store t x y) (hs:(P.info? t).map (·.size)=some us.length)
    (hx:ev env x=some (elP v j)) (hy:ev env y=some (.agg us.toArray)) (h1:∀u∈us,u.oneCell'=true) (hi:l[i]? = some (rowE e size v n xs)) (hpos:0<n) (hlt:j+us.length≤n*size)
    {n':Nat}{xs':List Value}(hn':n=n') (hx':putL xs j us=xs') (hl':l.set i (rowE e size v n' xs')=l') (k:HL P N ops w0 l' env rest Q):HL P N ops w0 l env (o::rest) Q:=by
  subst hl' hn' hx'
  exact mC hd hw (fun a w st=>by
    have hb:w.ownsRow 0 e size v n xs:=st.mem.holds _ (bX hi)
    obtain⟨g,cap,rfl⟩:∃g cap,v=.slice (some ⟨g,0,none⟩) n cap:=by
      rcases hb.2 with⟨rfl,rfl⟩|⟨g,cap',cur,rfl,_⟩
      · omega
      · exact⟨g,cap',rfl⟩
    obtain⟨w',hr,hm⟩:=qK (P:=P) (j:=j) us 0 xs l w st.mem hi h1 (by omega)
    refine⟨w',?_,hm⟩
    have hce:(Value.agg us.toArray).cells=us.toArray:=rfl
    simp[execOp,ho,st.eval hx,elP,st.eval hy,Instr.storeAt,Instr.sureAddr,storeVar,hce,gQ hs,hr]) k
end
theorem RdsW.one {w:World}{v:Value}{s n:Nat}{cs:List Value}(h:RdsW w v s n cs):v.oneCell'=true:=by
  obtain⟨a,cap,rfl,_⟩:=h;rfl
section
variable {P:Program}{N:Nat}{w0:World}{l l':List HP}{env:List (Nat×Value)}{Q:Post}{ops:Array Oper}{rest:List Oper}
theorem dZ {i e s n:Nat}{v:Value}{xs:List Value}(hi:l[i]? = some (rowE e s v n xs)) (k:v.oneCell'=true→HL P N ops w0 l env rest Q):HL P N ops w0 l env rest Q:=fun a w st=>k (bT (st.mem.holds _ (bX hi))).one a w st
theorem iA {p:Prop}(h:∀w,Mem w0 l w→p) (k:p→HL P N ops w0 l env rest Q):HL P N ops w0 l env rest Q:=fun a w st=>k (h w st.mem) a w st
end
theorem jL {α:Type}(f:α→List Value) (s:Nat) (hs:∀a,(f a).length=s) (d:α) (z:Array Value) (hz:z.toList=f d) (n:Nat):(madeCells z ((List.replicate n d).length*s)).toList=(List.replicate n d).flatMap f:=by
  have hsz:z.size=s:=by rw[←hs d,←hz];simp
  apply List.ext_getElem?
  intro j
  rw[List.length_replicate]
  by_cases hj:j<n*s
  · have hs0 : 0 < s := by rcases Nat.eq_zero_or_pos s with h | h; (subst h; omega); exact h
    have hi:j / s<n:=Nat.div_lt_of_lt_mul (by rw[Nat.mul_comm];exact hj)
    have hm:j % s<s:=Nat.mod_lt _ hs0
    have e:j=j / s*s+j % s:=by rw[Nat.mul_comm];exact(Nat.div_add_mod j s).symm
    have h2:=dE f s hs (List.replicate n d) d (i:=j / s) (k:=j % s) (by rw[List.length_replicate];exact hi) hm
    rw[←e] at h2
    rw[h2]
    have h3:(List.replicate n d).getD (j / s) d=d:=by rw[List.getD_eq_getElem?_getD,List.getElem?_replicate];split<;>rfl
    rw[h3,←hz]
    have hlt:j<(madeCells z (n*s)).toList.length:=by simpa [size_madeCells] using hj
    rw[List.getElem?_eq_getElem hlt]
    simp only[madeCells,Array.toList_map,List.getElem_map,Array.toList_range,List.getElem_range,hsz]
    rw[getElem!_pos z (j % s) (by omega),Array.getElem?_toList,Array.getElem?_eq_getElem (by omega)]
  · rw[List.getElem?_eq_none (by simpa [size_madeCells] using hj),List.getElem?_eq_none (by rw[rC f s hs,List.length_replicate];omega)]
def tauOk (os:List Oper) (m:Nat) (dps qd:List (List Nat)) (tau:List (Option Nat)) (fl:List Nat):Bool:=
  (List.range m).all (fun i=>(qd.getD i []).all (fun j=>(dps.getD i []).contains j&&(List.range m).all (fun k=>tau.getD k none != some j))&&decide ((qd.getD i []).Nodup))&&
  (List.range m).all (fun i=>match tau.getD i none with|none=>true|some h=>(h==os.length||(dps.getD i []).contains h)&&(List.range m).all (fun k=>k==i||tau.getD k none != some h))&&
  fl.all (fun j=>(Nat.blt j m||j==os.length)&&(List.range m).all (fun k=>tau.getD k none != some j))&&decide fl.Nodup
def RunM (P:Program) (N:Nat) (w0:World) (C X:List HP) (env:List (Nat×Value)) (o:Oper) (R:Value→List HP→Prop):Prop:=
  ∀L,(∀w,Mem w0 L w→Mem w0 X w)→∀a w,St N w0 (C++L) env a w→∀(Q:Post) (K:Act→World→Prop),(∀v post w',R v post→Mem w0 (post++L) w'→K (a.put o.dst v) w')→o.wp P a w K Q
def OblM (P:Program) (ops:Array Oper) (N:Nat) (w0:World) (C X:List HP) (env:List (Nat×Value)) (o:Oper) (R:Value→List HP→Prop):Prop:=
  (want ops env o.guard=some true∧RunM P N w0 C X env o R)∨(want ops env o.guard=some false∧R undef C)
def Obl2 (P:Program) (ops:Array Oper) (N:Nat) (w0:World) (t:Option Nat) (pf:Nat→List HP) (X:List HP) (env:List (Nat×Value)) (o:Oper) (R:Value→List HP→Prop):Prop:=match t with
  | none=>Obl P ops N w0 X env o R
  | some h=>OblM P ops N w0 (pf h) X env o R
section
variable {P:Program}{N:Nat}{w0:World}{l:List HP}{env:List (Nat×Value)}{Q:Post}{os:List Oper}{m:Nat}{dps:List (List Nat)}{dsts:List Nat}{R:Nat→List Value→Value→List HP→Prop}
structure Mid2 (N:Nat) (w0:World) (l:List HP) (env:List (Nat×Value)) (os:List Oper) (m:Nat) (dps:List (List Nat)) (dsts:List Nat) (R:Nat→List Value→Value→List HP→Prop) (tau:List (Option Nat)) (P0:List HP) (listed:Array Bool) (ord held:List Nat) (vf:Nat→Value) (pf:Nat→List HP) (a:Act) (w:World):Prop where
  size:listed.size=os.length
  iff:∀i,i<os.length→(listed.getD i true=true↔i∈ord)
  low:∀i∈ord,i<m
  closed:∀i∈ord,∀j∈depsOf os i,j∈ord
  nodup:ord.Nodup
  dcl:∀i∈ord,∀j∈dps.getD i [],j∈ord
  rel:∀i∈ord,R i ((dps.getD i []).map vf) (vf i) (pf i)
  hn:held.Nodup
  hin:∀i∈held,i∈ord∨i=os.length
  hall:∀i,(i∈ord∨i=os.length)→(∀j∈ord,tau.getD j none≠some i)→i∈held
  hP:pf os.length=P0
  mem:Mem w0 (held.flatMap pf++l) w
  asize:a.tmps.size=N
  defers:a.defers=[]
  env:∀d v,lk env d=some v→a.tmps[d]? = some v
  slots:∀i∈ord,∀d,dsts[i]? = some d→a.tmps[d]? = some (vf i)
theorem Mid2.st {tau P0 listed ord held vf pf a w}(h:Mid2 N w0 l env os m dps dsts R tau P0 listed ord held vf pf a w) (hm:m≤dsts.length) {is:List Nat}(hs:∀j∈is,j∈ord) {L:List HP}(hM:Mem w0 L w):St N w0 L (envOf dsts vf is++env) a w:=by
  refine⟨hM,h.asize,h.defers,fun d v hd=>?_⟩
  rcases lZ _ _ _ _ hd with h1|h1
  · unfold envOf at h1
    rw[List.mem_map] at h1
    obtain⟨i,hi,he⟩:=h1
    have hio:=hs i hi
    have hlt:=h.low i hio
    have:dsts[i]? = some (dsts.getD i 0):=by rw[List.getD_eq_getElem?_getD,List.getElem?_eq_getElem (by omega)];rfl
    simp only[Prod.mk.injEq] at he
    obtain⟨rfl,rfl⟩:=he
    exact h.slots i hio _ this
  · exact h.env d v h1
def Dues2 (P:Program) (ops:Array Oper) (N:Nat) (w0:World) (l:List HP) (env:List (Nat×Value)) (P0:List HP) (mu:Nat) (dsts:List Nat) (all qall:List (List Nat)) (tau:List (Option Nat)) (R:Nat→List Value→Value→List HP→Prop):Nat→List (List Nat)→List Oper→Prop
  | _,_,[]=>True
  | k,dss,o::os=>(∀(vf:Nat→Value) (pf:Nat→List HP),pf mu=P0→(∀j∈all.getD k [],R j ((all.getD j []).map vf) (vf j) (pf j))→Obl2 P ops N w0 (tau.getD k none) pf ((qall.getD k []).flatMap pf++l) (envOf dsts vf (all.getD k [])++env) o (R k ((all.getD k []).map vf)))∧Dues2 P ops N w0 l env P0 mu dsts all qall tau R (k+1) dss os
theorem wY {P:Program}{ops:Array Oper}{N:Nat}{w0:World}{l:List HP}{env:List (Nat×Value)}{P0:List HP}{mu:Nat}{dsts:List Nat}{all qall:List (List Nat)}{tau:List (Option Nat)}{R:Nat→List Value→Value→List HP→Prop}:∀(os:List Oper) (dss:List (List Nat)) (k:Nat),Dues2 P ops N w0 l env P0 mu dsts all qall tau R k dss os→∀i o,os[i]? = some o→∀vf pf,pf mu=P0→(∀j∈all.getD (k+i) [],R j ((all.getD j []).map vf) (vf j) (pf j))→Obl2 P ops N w0 (tau.getD (k+i) none) pf ((qall.getD (k+i) []).flatMap pf++l) (envOf dsts vf (all.getD (k+i) [])++env) o (R (k+i) ((all.getD (k+i) []).map vf))
  | [],_,_,_,i,o,ho,_,_,_,_=>by simp at ho
  | o'::os,dss,k,h,0,o,ho,vf,pf,hP,hR=>by simp at ho;subst ho;exact h.1 vf pf hP hR
  | o'::os,dss,k,h,i+1,o,ho,vf,pf,hP,hR=>by
    have e:k+1+i=k+(i+1):=by omega
    have:=wY os dss (k+1) h.2 i o (by simpa using ho) vf pf hP (by rw[e];exact hR)
    rwa [e] at this
theorem eY {f:FuncId}{xs:Array Operand}{ats:Array TypeId}{vs:List Value}{p:HP}{X:List HP}{R:Value→HP→Prop}{ty:TypeId}{pos:String}{af:Array Edge}{gd:Option (Nat×Bool)}{ds:Option Nat}(hgo:goesB P f=true) (hvs:evs env xs.toList=some vs)
    (hc:∀L w,(∀w,Mem w0 L w→Mem w0 X w)→Mem w0 (p::L) w→Calls P f vs.toArray w fun e w'=>∃v p',e=.returned v∧R v p'∧Mem w0 (p'::L) w') :
    RunM P N w0 [p] X env { dst:=ds,op:=.call { callee:=.value (.func f),args:=xs,argTypes:=ats },type:=ty,pos:=pos,after:=af,guard:=gd } (fun v post=>∃p',post=[p']∧R v p'):=fun L hL a w st Q K hK=>by
  unfold Oper.wp
  have h1:=oE st _ _ hvs
  have h2:#[]++xs.map a.eval ++ #[]=vs.toArray:=by
    rw[Array.empty_append,Array.append_empty]
    apply Array.toList_inj.1
    simpa using h1
  rw[execOp_call_go,h2,tS hgo,Oper.upon_enter]
  refine(hc L w hL st.mem).mono fun e w' h=>?_
  obtain⟨v,p',rfl,hR,hm⟩:=h
  exact hK _ _ _ ⟨p',rfl,hR⟩ hm
theorem gK {ops:Array Oper}{rest:List Oper}{d:Nat}{f:FuncId}{xs:Array Operand}{ats:Array TypeId}{vs:List Value}{p:HP}{R:Value→HP→Prop}{ty:TypeId}{pos:String}{af:Array Edge}{gd:Option (Nat×Bool)}(i:Nat) (hN:Nat.blt d N=true) (hw:want ops env gd=some true)
    (hgo:goesB P f=true) (hvs:evs env xs.toList=some vs) (hi:l[i]? = some p)
    (hc:∀L w,(∀w,Mem w0 L w→Mem w0 (l.eraseIdx i) w)→Mem w0 (p::L) w→Calls P f vs.toArray w fun e w'=>∃v p',e=.returned v∧R v p'∧Mem w0 (p'::L) w') (k:∀v p',R v p'→HL P N ops w0 (l.set i p') ((d,v)::env) rest Q):HL P N ops w0 l env ({ dst:=some d,op:=.call { callee:=.value (.func f),args:=xs,argTypes:=ats },type:=ty,pos:=pos,after:=af,guard:=gd } :: rest) Q:=fun a w st=>by
  have h1:=nC l i p hi
  have hil:i<l.length:=(List.getElem?_eq_some_iff.1 hi).1
  refine Ac (vs:=vs.toArray) rfl hN hw (fun a=>execOp_call_go a (some d) f xs ats ty pos af gd) (fun a w st=>?_) (fun w=>tS hgo _ w) (fun w hm=>(hc (l.eraseIdx i) w (fun w h=>h) (hm.perm h1)).mono fun e w' h=>?_) a w st
  · have := oE st _ _ hvs
    rw[Array.empty_append,Array.append_empty]
    apply Array.toList_inj.1
    simpa using this
  · obtain ⟨v, p', rfl, hR, hm'⟩ := h
    have h2:=nC (l.set i p') i p' (List.getElem?_set_self hil)
    rw[List.eraseIdx_set_eq] at h2
    exact⟨v,_,rfl,hm'.perm h2.symm,k v p' hR⟩
theorem tR {t t':TypeId}{x:Operand}{o:Oper}{m:Int}{k k':IntKind}(ho:o.op=.convert t t' x) (ht:P.underlying t=some (.int k)) (ht':P.underlying t'=some (.int k')) (hx:ev env x=some (.int k m)) (hr:k'.wrap m=m):RunV P N w0 l env o (.int k' m):=fun a w st=>by
  have h2:(convert t t' (.int k m)).run P w=.ok (.int k' m) w:=by simp[convert,run_underlying ht,run_underlying ht',Conv.intToInt,hr]
  simp[execOp,ho,st.eval hx,h2]
theorem Fc {C X X':List HP}{env':List (Nat×Value)}{o:Oper}{R:Value→List HP→Prop}(hs:sub env' env) (hx:X'.Sublist X) (h:RunM P N w0 C X' env' o R):RunM P N w0 C X env o R:=fun L hL a w st=>h L (fun w hm=>(hL w hm).sub hx) a w (st.less hs (.refl _))
theorem fD {C X:List HP}{o:Oper}{R R':Value→List HP→Prop}(h:RunM P N w0 C X env o R) (hr:∀v post,R v post→R' v post):RunM P N w0 C X env o R':=fun L hL a w st Q K hK=>h L hL a w st Q K fun v post w' hv hm=>hK v post w' (hr _ _ hv) hm
end
theorem vV (n k:Nat):((List.range k).map (n + ·)).Nodup:=by
  rw[List.Nodup,List.pairwise_map]
  exact List.nodup_range.imp (fun h e=>h (by omega))
theorem yB {α:Type}(P0:List (List α)):(List.range P0.length).map (fun a=>P0.getD a [])=P0:=by
  apply List.ext_getElem (by simp)
  intro i h1 h2
  simp[List.getD_eq_getElem?_getD,List.getElem?_eq_getElem h2]
def envOf3 (dsts:List (Option Nat)) (vf:Nat→Value) (is:List Nat):List (Nat×Value):=is.filterMap fun i=>(dsts.getD i none).map fun d=>(d,vf i)
def drawOk3 (os:List Oper) (m:Nat) (dps:List (List Nat)) (dsts:List (Option Nat)):Bool:=
  Nat.ble m os.length&&
  (List.range os.length).all (fun i=>(depsOf os i).all (fun j=>Nat.blt j i))&&
  (List.range os.length).all (fun k=>Nat.blt k m||(List.range m).all (fun j=>((msk ((List.range os.length).map (depsOf os)) []).getD k 0).testBit j))&&
  (List.range (os.length-m)).all (fun t=>Region.ready .any os.toArray (List.replicate (m+t) true++List.replicate (os.length-(m+t)) false).toArray==[m+t])&&
  (os.take m).map (·.dst)==dsts&&(List.range m).all (fun i=>(List.range m).all (fun j=>i==j||dsts.getD i none==none||dsts.getD i none != dsts.getD j none))&&
  (List.range m).all (fun i=>(dps.getD i []).all (fun j=>((msk ((List.range os.length).map (depsOf os)) []).getD i 0).testBit j)&&decide ((dps.getD i []).Nodup))
section
variable {P:Program}{N:Nat}{w0:World}{l:List HP}{env:List (Nat×Value)}{Q:Post}{os:List Oper}{m:Nat}{dps:List (List Nat)}{dsts:List (Option Nat)}{R:Nat→List Value→Value→List HP→Prop}
structure Mid3 (N:Nat) (w0:World) (l:List HP) (env:List (Nat×Value)) (os:List Oper) (m:Nat) (dps:List (List Nat)) (dsts:List (Option Nat)) (R:Nat→List Value→Value→List HP→Prop) (tau:List (Option Nat)) (P0:List (List HP)) (listed:Array Bool) (ord held:List Nat) (vf:Nat→Value) (pf:Nat→List HP) (a:Act) (w:World):Prop where
  size:listed.size=os.length
  iff:∀i,i<os.length→(listed.getD i true=true↔i∈ord)
  low:∀i∈ord,i<m
  closed:∀i∈ord,∀j∈depsOf os i,j∈ord
  nodup:ord.Nodup
  dcl:∀i∈ord,∀j∈dps.getD i [],j∈ord
  rel:∀i∈ord,R i ((dps.getD i []).map vf) (vf i) (pf i)
  hn:held.Nodup
  hin:∀i∈held,i∈ord∨(os.length≤i∧i<os.length+P0.length)
  hall:∀i,(i∈ord∨(os.length≤i∧i<os.length+P0.length))→(∀j∈ord,tau.getD j none≠some i)→i∈held
  hP:∀k,k<P0.length→pf (os.length+k)=P0.getD k []
  mem:Mem w0 (held.flatMap pf++l) w
  asize:a.tmps.size=N
  defers:a.defers=[]
  env:∀d v,lk env d=some v→a.tmps[d]? = some v
  slots:∀i∈ord,∀d,dsts[i]? = some (some d)→a.tmps[d]? = some (vf i)
theorem Mid3.st {tau P0 listed ord held vf pf a w}(h:Mid3 N w0 l env os m dps dsts R tau P0 listed ord held vf pf a w) (hm:m≤dsts.length) {is:List Nat}(hs:∀j∈is,j∈ord) {L:List HP}(hM:Mem w0 L w):St N w0 L (envOf3 dsts vf is++env) a w:=by
  refine⟨hM,h.asize,h.defers,fun d v hd=>?_⟩
  rcases lZ _ _ _ _ hd with h1|h1
  · unfold envOf3 at h1
    rw[List.mem_filterMap] at h1
    obtain⟨i,hi,he⟩:=h1
    rw[Option.map_eq_some_iff] at he
    obtain⟨d',hd',he⟩:=he
    simp only[Prod.mk.injEq] at he
    obtain⟨rfl,rfl⟩:=he
    have:dsts[i]? = some (some d'):=by
      rw[List.getD_eq_getElem?_getD] at hd'
      cases hx:dsts[i]? with
      | none=>rw[hx] at hd';cases hd'
      | some y=>rw[hx] at hd';exact congrArg some hd'
    exact h.slots i (hs i hi) _ this
  · exact h.env d v h1
theorem dR {P0 X:List HP}{o:Oper}{t b off:Nat}{x y:Operand}{cs cs':Array Value}{tb:TypeId}{us:List Value}(i:Nat) (hd:o.dst=none) (ho:o.op=.store t x y) (hs:(P.info? t).map (·.size)=some us.length)
    (hx:ev env x=some (.pointer (some ⟨b,off,none⟩))) (hy:ev env y=some (.agg us.toArray)) (hi:P0[i]? = some (boxE b cs tb)) (h1:∀u∈us,u.oneCell'=true) (hlt:Nat.ble (off+us.length) cs.size=true) (hcs:putN cs off us=cs') :
    RunM P N w0 P0 X env o (fun v post=>post=P0.set i (boxE b cs' tb)):=fun L hL a w st Q K hK=>by
  subst hcs
  rw[Nat.ble_eq] at hlt
  have hil:i<P0.length:=(List.getElem?_eq_some_iff.1 hi).1
  obtain⟨w',hr,hm⟩:=mX (P:=P) (off:=off) us 0 cs (P0++L) w st.mem (by rw[List.getElem?_append_left hil];exact hi) h1 (by omega)
  have hce:(Value.agg us.toArray).cells=us.toArray:=rfl
  have hrun:(execOp a.eval o).run P w=.ok .skip w':=by simp[execOp,ho,st.eval hx,st.eval hy,Instr.storeAt,Instr.sureAddr,storeVar,hce,gQ hs,hr]
  unfold Oper.wp
  rw[hrun,Oper.upon_skip]
  exact hK undef _ w' rfl (by rw[List.set_append_left _ _ hil] at hm;exact hm)
theorem gV {X:List HP}{o:Oper}{d t e s bytes n m:Nat}{x y:Operand}{v u z:Value}{xs news:List Value}(ho:o.op=.call { callee:=.builtin .append,args:=#[x,y],argTypes:=#[t,t] })
    (hu:P.underlying t=some (.slice e)) (hinf:(P.info? e).map (fun i=>(i.zero,i.size,i.bytes))=some (some z,s,bytes)) (hzs:(Nat.beq z.cells.size s&&Nat.blt 0 s&&Nat.ble bytes 1000)=true)
    (hx:ev env x=some v) (hy:ev env y=some u) (hr:Rd w0 X u s m news) (h1:∀q∈news,q.oneCell'=true) (hnm:n+m≤100000000000)
    {n':Nat}{xs':List Value}(hn':n+m=n') (hx':xs++news=xs'):RunM P N w0 [rowE e s v n xs] X env o (fun v' post=>∃p',post=[p']∧p'=rowE e s v' n' xs'):=fun L hL a w st Q K hK=>by
  obtain⟨inf,hi',hz,hs,hby⟩:=info_parts hinf
  simp only[Bool.and_eq_true,Nat.beq_eq,Nat.blt_eq,Nat.ble_eq] at hzs
  obtain⟨⟨hz1,hz2⟩,hz3⟩:=hzs
  obtain⟨ad,cap,rfl,hl,hm,hc⟩:=hr w (hL w (st.mem.sub (List.sublist_append_right _ _)))
  have hown:w.ownsRow 0 e s v n xs:=st.mem.holds _ (bX (i:=0) rfl)
  have hrun:∃v' w',(Builtin.append_ #[t,t] o.type #[v,.slice ad m cap]).run P w=.ok v' w'∧w'.ownsRow 0 e s v' (n+m) (xs++news)∧w.grownBy w' v.ownBlock∧(v'.ownBlock=v.ownBlock∨v'.ownBlock=some w.heap.size):=by
    by_cases hm0:m=0
    · subst hm0
      have hn:news=[]:=List.eq_nil_of_length_eq_zero (by simpa using hl)
      subst hn
      refine⟨v,w,?_,by simpa using hown,World.grownBy.refl _ _,.inl rfl⟩
      rcases hown.2 with⟨rfl,rfl⟩|⟨g,cap',cur,rfl,_,hg,hnc,hcm,hcs,htake⟩
      · cases ad<;>simp[Builtin.append_,run_underlying hu,sizeOf,typeInfo,hi',Builtin.lenOf,Builtin.firstCells,loadCells,loadCellsFrom]
      · cases ad<;>simp[Builtin.append_,run_underlying hu,sizeOf,typeInfo,hi',Builtin.lenOf,Builtin.firstCells,loadCells,loadCellsFrom,hnc,storeCells]
    · obtain ⟨b, off, rfl, hc'⟩ := hc (by omega)
      have hb:(n+m)*bytes≤140737488355328:=by have:=Nat.mul_le_mul hnm hz3;omega
      obtain⟨v',w',e1,e2,e3,_,e5⟩:=run_append_own_at (P:=P) w 0 t o.type e inf z s bytes hu hi' hz hs hby hz1 hz2 v n xs hown ⟨b,off,none⟩ m cap news hl (fun j q hj=>by rw[jK];exact hc' j q hj) h1 (by unfold maxLen;omega) hb (Nat.zero_le _)
      exact⟨v',w',e1,e2,e3,e5⟩
  obtain⟨v',w',e1,e2,e3,e4⟩:=hrun
  have hr:(execOp a.eval o).run P w=.ok (.value v') w':=by
    simp only[execOp,ho,resolve,invoke,builtin,Sem.run_bind,Sem.run_pure,Result.andThen_ok,List.map_toArray,List.map_cons,List.map_nil,st.eval hx,st.eval hy,e1]
  unfold Oper.wp
  rw[hr,Oper.upon_value]
  subst hn' hx'
  exact hK v' _ w' ⟨_,rfl,rfl⟩ (Mem.append (i:=0) rfl st.mem e2 e3 e4)
end
def tauOk4 (os:List Oper) (m K:Nat) (dps qd:List (List Nat)) (tau:List (Option Nat)) (fl:List Nat):Bool:=
  (List.range m).all (fun i=>(qd.getD i []).all (fun j=>((dps.getD i []).contains j||(Nat.ble os.length j&&Nat.blt j (os.length+K)))&&(List.range m).all (fun k=>tau.getD k none != some j||(k != i&&((msk ((List.range os.length).map (depsOf os)) []).getD k 0).testBit i)))&&decide ((qd.getD i []).Nodup))&&
  (List.range m).all (fun i=>match tau.getD i none with|none=>true|some h=>((Nat.ble os.length h&&Nat.blt h (os.length+K))||(dps.getD i []).contains h)&&(List.range m).all (fun k=>k==i||tau.getD k none != some h))&&
  fl.all (fun j=>(Nat.blt j m||(Nat.ble os.length j&&Nat.blt j (os.length+K)))&&(List.range m).all (fun k=>tau.getD k none != some j))&&decide fl.Nodup
section
variable {P:Program}{N:Nat}{w0:World}{l:List HP}{env:List (Nat×Value)}{Q:Post}{os:List Oper}{m:Nat}{dps:List (List Nat)}{dsts:List (Option Nat)}{R:Nat→List Value→Value→List HP→Prop}
structure Mid4 (N:Nat) (w0:World) (l:List HP) (env:List (Nat×Value)) (os:List Oper) (m:Nat) (dps:List (List Nat)) (dsts:List (Option Nat)) (R:Nat→List Value→Value→List HP→Prop) (tau:List (Option Nat)) (P0:List (List HP)) (listed:Array Bool) (ord held:List Nat) (vf:Nat→Value) (pf:Nat→List HP) (a:Act) (w:World):Prop where
  size:listed.size=os.length
  iff:∀i,i<os.length→(listed.getD i true=true↔i∈ord)
  low:∀i∈ord,i<m
  closed:∀i∈ord,∀j∈depsOf os i,j∈ord
  nodup:ord.Nodup
  dcl:∀i∈ord,∀j∈dps.getD i [],j∈ord
  rel:∀i∈ord,R i ((dps.getD i []).map vf) (vf i) (pf i)
  hn:held.Nodup
  hin:∀i∈held,i∈ord∨(os.length≤i∧i<os.length+P0.length)
  hall:∀i,(i∈ord∨(os.length≤i∧i<os.length+P0.length))→(∀j∈ord,tau.getD j none≠some i)→i∈held
  hP:∀k,k<P0.length→pf (os.length+k)=P0.getD k []
  mem:Mem w0 (held.flatMap pf++l) w
  asize:a.tmps.size=N
  defers:a.defers=[]
  env:∀d v,lk env d=some v→a.tmps[d]? = some v
  slots:∀i∈ord,∀d,dsts[i]? = some (some d)→a.tmps[d]? = some (vf i)
theorem Mid4.st {tau P0 listed ord held vf pf a w}(h:Mid4 N w0 l env os m dps dsts R tau P0 listed ord held vf pf a w) (hm:m≤dsts.length) {is:List Nat}(hs:∀j∈is,j∈ord) {L:List HP}(hM:Mem w0 L w):St N w0 L (envOf3 dsts vf is++env) a w:=by
  refine⟨hM,h.asize,h.defers,fun d v hd=>?_⟩
  rcases lZ _ _ _ _ hd with h1|h1
  · unfold envOf3 at h1
    rw[List.mem_filterMap] at h1
    obtain⟨i,hi,he⟩:=h1
    rw[Option.map_eq_some_iff] at he
    obtain⟨d',hd',he⟩:=he
    simp only[Prod.mk.injEq] at he
    obtain⟨rfl,rfl⟩:=he
    have:dsts[i]? = some (some d'):=by
      rw[List.getD_eq_getElem?_getD] at hd'
      cases hx:dsts[i]? with
      | none=>rw[hx] at hd';cases hd'
      | some y=>rw[hx] at hd';exact congrArg some hd'
    exact h.slots i (hs i hi) _ this
  · exact h.env d v h1
theorem sT {id : Nat} (hmix : P.follows .mixedOrders = true) (m : Nat) (dps : List (List Nat)) (dsts : List (Option Nat)) (R : Nat → List Value → Value → List HP → Prop) (qd : List (List Nat)) (tau : List (Option Nat)) (P0 : List (List HP)) (fl : List Nat) (hok : drawOk3 os m dps dsts = true) (htau : tauOk4 os m P0.length dps qd tau fl = true) (hfresh : dsts.all (fun d => match d with | some d => (lk env d).isNone | none => true) = true) (hN : dsts.all (fun d => match d with | some d => Nat.blt d N | none => true) = true)
    (due:∀i o,os[i]? = some o→i<m→∀vf pf,(∀k,k<P0.length→pf (os.length+k)=P0.getD k [])→(∀j∈dps.getD i [],R j ((dps.getD j []).map vf) (vf j) (pf j))→Obl2 P os.toArray N w0 (tau.getD i none) pf ((qd.getD i []).flatMap pf++l) (envOf3 dsts vf (dps.getD i [])++env) o (R i ((dps.getD i []).map vf)))
    (fin:∀vf pf,(∀k,k<P0.length→pf (os.length+k)=P0.getD k [])→(∀i,i<m→R i ((dps.getD i []).map vf) (vf i) (pf i))→HL P N os.toArray w0 (fl.flatMap pf++l) (envOf3 dsts vf (List.range m)++env) (os.drop m) Q):HC P N w0 (P0.flatten++l) env (.region id os.toArray true) Q:=by
  intro a w st
  refine wp_region_any hmix ?_
  simp only[drawOk3,Bool.and_eq_true,Nat.ble_eq,List.all_eq_true,List.mem_range,Bool.or_eq_true,Nat.blt_eq,beq_iff_eq,decide_eq_true_eq,Array.all_eq_true',bne_iff_ne] at hok
  obtain⟨⟨⟨⟨⟨⟨hml,hback⟩,hcov⟩,hready⟩,hdst⟩,hdn⟩,hdp⟩:=hok
  simp only[tauOk4,Bool.and_eq_true,List.all_eq_true,List.mem_range,Bool.or_eq_true,Nat.blt_eq,Nat.ble_eq,beq_iff_eq,bne_iff_ne,decide_eq_true_eq,List.contains_iff_mem] at htau
  obtain⟨⟨⟨hqd,hth⟩,hfl⟩,hfn⟩:=htau
  have hml':m≤dsts.length:=by have:=congrArg List.length hdst;simp at this;omega
  have hlen:dsts.length=m:=by have:=congrArg List.length hdst;simp at this;omega
  have hrdy:∀k,m≤k→k<os.length→Region.ready .any os.toArray (preT os.length k)=[k]:=fun k h1 h2=>by
    have:=hready (k-m) (by omega)
    rw[show m+(k-m)=k by omega] at this
    exact this
  have hmsk:∀i j,((msk ((List.range os.length).map (depsOf os)) []).getD i 0).testBit j=true→Dep os i j:=uB os _ _ (fun t ds ht d hd=>by
    rw[List.getElem?_map] at ht
    by_cases h:t<os.length
    · rw[List.getElem?_range h] at ht;simp at ht;subst ht;simpa using hd
    · rw[List.getElem?_eq_none (by simp;omega)] at ht;cases ht) (fun i j h=>by simp at h)
  have dstAt:∀i,i<m→∀o,os[i]? = some o→o.dst=dsts.getD i none:=fun i hi o ho=>by
    have h1:((os.take m).map (·.dst))[i]? = some o.dst:=by rw[List.getElem?_map,List.getElem?_take,if_pos hi,ho];rfl
    rw[hdst] at h1
    rw[List.getD_eq_getElem?_getD,h1];rfl
  -- what may come up
  have key:∀(f:Nat) (listed:Array Bool) (ord held:List Nat) (vf:Nat→Value) (pf:Nat→List HP) (a:Act) (w:World),f+ord.length=os.length→Mid4 N w0 l env os m dps dsts R tau P0 listed ord held vf pf a w→wpAny P .any os.toArray Q f listed a w:=by
    intro f
    induction f with
    | zero=>
      intro listed ord held vf pf a w hf h
      -- all are listed: m = the length
      have hall:∀i,i<os.length→i∈ord:=by
        intro i hi
        have hsub:ord.Perm (List.range os.length)∨True:=.inr trivial
        obtain⟨r,hr⟩:=kH ord (List.range os.length) h.nodup (fun j hj=>by have:=h.low j hj;simp;omega)
        have hl:=hr.length_eq
        simp at hl
        have:r=[]:=List.length_eq_zero_iff.1 (by omega)
        subst this
        have:=hr.mem_iff.1 (List.mem_range.2 hi)
        simpa using this
      have hm2:m=os.length:=by
        by_cases hc:m<os.length
        · have:=h.low m (hall m hc);omega
        · omega
      have hp:listed=preT os.length m:=by
        apply Array.ext
        · rw[h.size,iP _ _ hml]
        · intro i h1 h2
          have hi:i<os.length:=by rw[h.size] at h1;exact h1
          have e1:=(h.iff i hi).2 (hall i hi)
          have e2:=lK os.length m i hml hi
          rw[Array.getD_eq_getD_getElem?,Array.getElem?_eq_getElem h1] at e1
          rw[Array.getD_eq_getD_getElem?,Array.getElem?_eq_getElem h2] at e2
          simp only[Option.getD_some] at e1 e2
          rw[e1,e2];simp;omega
      rw[hp]
      refine qH hrdy 0 m (Nat.le_refl _) (by omega) a w ?_
      exact fin vf pf h.hP (fun i hi=>h.rel i (hall i (by omega))) a w (h.st hml' (fun j hj=>hall j (by rw[List.mem_range] at hj;omega)) (h.mem.pick hfn (fun j hj=>h.hall j ((hfl j hj).1.imp (fun hlt=>hall j (by omega)) (fun x=>x)) (fun k hk=>(hfl j hj).2 k (h.low k hk)))))
    | succ f ih=>
      intro listed ord held vf pf a w hf h
      by_cases hall:∀i,i<m→i∈ord
      · -- the tail's turn
        have hp:listed=preT os.length m:=by
          apply Array.ext
          · rw[h.size,iP _ _ hml]
          · intro i h1 h2
            have hi:i<os.length:=by rw[h.size] at h1;exact h1
            have e1:=h.iff i hi
            have e2:=lK os.length m i hml hi
            rw[Array.getD_eq_getD_getElem?,Array.getElem?_eq_getElem h1] at e1
            rw[Array.getD_eq_getD_getElem?,Array.getElem?_eq_getElem h2] at e2
            simp only[Option.getD_some] at e1 e2
            rw[e2,Bool.eq_iff_iff,e1,decide_eq_true_eq]
            exact⟨fun hx=>h.low i hx,fun hx=>hall i hx⟩
        have hord:ord.length=m:=by
          obtain⟨r,hr⟩:=kH ord (List.range m) h.nodup (fun j hj=>by have:=h.low j hj;simpa using this)
          obtain⟨r',hr'⟩:=kH (List.range m) ord List.nodup_range (fun j hj=>hall j (by simpa using hj))
          have h1:=hr.length_eq
          have h2:=hr'.length_eq
          simp at h1 h2
          omega
        rw[hp]
        refine qH hrdy (f+1) m (Nat.le_refl _) (by omega) a w ?_
        exact fin vf pf h.hP (fun i hi=>h.rel i (hall i hi)) a w (h.st hml' (fun j hj=>hall j (by simpa using hj)) (h.mem.pick hfn (fun j hj=>h.hall j ((hfl j hj).1.imp (fun hlt=>hall j hlt) (fun x=>x)) (fun k hk=>(hfl j hj).2 k (h.low k hk)))))
      · -- some quiet one is not done yet
        have hsome:∃i,i<m∧i∉ord:=by
          by_cases hx:∃i,i<m∧i∉ord
          · exact hx
          · exact absurd (fun i hi=>Decidable.byContradiction fun hn=>hx ⟨i,hi,hn⟩) hall
        have mem_rdy:∀i,i∈Region.ready .any os.toArray listed↔i<os.length∧i∉ord∧∀j∈depsOf os i,j∈ord:=by
          intro i
          unfold Region.ready
          rw[List.mem_filter,List.mem_range]
          simp only[List.size_toArray]
          constructor
          · rintro ⟨hi, hb⟩
            rw[Bool.and_eq_true] at hb
            have hno:i∉ord:=fun hx=>by rw[(h.iff i hi).2 hx] at hb;simp at hb
            refine⟨hi,hno,fun j hj=>?_⟩
            have ho:os.toArray[i]? = some os[i]:=by simp[hi]
            rw[ho] at hb
            simp only[Option.map_some,Option.getD_some,Array.all_eq_true'] at hb
            unfold depsOf at hj
            rw[List.getElem?_eq_getElem hi] at hj
            simp only[List.mem_map,List.mem_filter] at hj
            obtain⟨e,⟨he,hbd⟩,rfl⟩:=hj
            have hb2:=hb.2 e (by simpa using he)
            rw[hbd] at hb2
            simp at hb2
            have hlt:=hback i hi e.on (by unfold depsOf;rw[List.getElem?_eq_getElem hi];exact List.mem_map.2 ⟨e,List.mem_filter.2 ⟨he,hbd⟩,rfl⟩)
            refine(h.iff e.on (by omega)).1 ?_
            have hs:e.on<listed.size:=by rw[h.size];omega
            rw[Array.getD_eq_getD_getElem?,Array.getElem?_eq_getElem hs]
            simp only[Option.getD_some]
            rw[Array.getElem?_eq_getElem hs] at hb2
            simpa using hb2
          · rintro ⟨hi, hno, hd⟩
            refine⟨hi,?_⟩
            have ho:os.toArray[i]? = some os[i]:=by simp[hi]
            rw[ho]
            simp only[Option.map_some,Option.getD_some,Bool.and_eq_true,Array.all_eq_true']
            refine⟨?_,fun e he=>?_⟩
            · cases hb:listed.getD i true with
              | true=>exact absurd ((h.iff i hi).1 hb) hno
              | false=>rfl
            · rw [Bool.or_eq_true]
              by_cases hbd:Region.binds .any e=true
              rotate_left
              · left;simpa using hbd
              right
              have hon:e.on∈depsOf os i:=by unfold depsOf;rw[List.getElem?_eq_getElem hi];exact List.mem_map.2 ⟨e,List.mem_filter.2 ⟨by simpa using he,hbd⟩,rfl⟩
              have hlt:=hback i hi e.on hon
              have:=(h.iff e.on (by omega)).2 (hd e.on hon)
              have hs:e.on<listed.size:=by rw[h.size];omega
              rw[Array.getD_eq_getD_getElem?,Array.getElem?_eq_getElem hs] at this
              simp only[Option.getD_some] at this
              rw[Array.getD_eq_getD_getElem?,Array.getElem?_eq_getElem hs]
              simpa using this
        have hdep:∀k j,Dep os k j→(∀d∈depsOf os k,d∈ord)→j∈ord:=by
          intro k j hd
          induction hd with
          | one hj=>intro hx;exact hx _ hj
          | more hk _ ih2=>intro hx;exact ih2 (fun d hd=>h.closed _ (hx _ hk) d hd)
        have hlow:∀i∈Region.ready .any os.toArray listed,i<m:=by
          intro i hi
          obtain⟨h1,h2,h3⟩:=(mem_rdy i).1 hi
          by_cases hc:i<m
          · exact hc
          · exfalso
            obtain⟨q,hq,hqn⟩:=hsome
            rcases hcov i h1 with h4|h4
            · exact hc h4
            · exact hqn (hdep i q (hmsk i q (h4 q hq)) h3)
        refine⟨fun h0=>?_,fun i hi=>?_⟩
        · -- the least one that is not done may come up
          exfalso
          obtain⟨q,hq,hqn⟩:=hsome
          obtain⟨p,hp,hmin⟩:=exists_least (p:=fun i=>i<m∧i∉ord) ⟨q,hq,hqn⟩
          have:p∈Region.ready .any os.toArray listed:=by
            rw[mem_rdy]
            refine⟨by omega,hp.2,fun j hj=>?_⟩
            have hlt:=hback p (by omega) j hj
            apply Decidable.byContradiction
            intro hn
            have:=hmin j ⟨by omega,hn⟩
            omega
          rw[h0] at this
          cases this
        · have him := hlow i hi
          obtain⟨h1,h2,h3⟩:=(mem_rdy i).1 hi
          have ho:os[i]? = some os[i]:=List.getElem?_eq_getElem h1
          have hdps:=hdp i him
          have hsub:∀j∈dps.getD i [],j∈ord:=fun j hj=>hdep i j (hmsk i j (hdps.1 j hj)) h3
          have hqi:=hqd i him
          have hqheld:∀j∈qd.getD i [],j∈held:=fun j hj=>h.hall j ((hqi.1 j hj).1.imp (hsub j) (fun x=>x)) (fun k hk=>by
            rcases(hqi.1 j hj).2 k (h.low k hk) with h5|⟨-,h6⟩
            · exact h5
            · exact absurd (hdep k i (hmsk k i h6) (h.closed k hk)) h2)
          have hobl:=due i os[i] ho him vf pf h.hP (fun j hj=>h.rel j (hsub j hj))
          have hdd:=dstAt i him _ ho
          have hdlt:∀d,dsts.getD i none=some d→d<N:=fun d hd=>by
            have:=List.all_eq_true.1 hN (some d) (by rw[←hd,List.getD_eq_getElem?_getD,List.getElem?_eq_getElem (by omega)];exact List.getElem_mem _)
            simpa [Nat.blt_eq] using this
          have hdnone:∀d,dsts.getD i none=some d→lk env d=none:=fun d hd=>by
            have:=List.all_eq_true.1 hfresh (some d) (by rw[←hd,List.getD_eq_getElem?_getD,List.getElem?_eq_getElem (by omega)];exact List.getElem_mem _)
            simpa using this
          have hne:∀j∈ord,j≠i:=fun j hj e=>h2 (e▸hj)
          have hneh:∀j∈held,j≠i:=fun j hj e=>by
            rcases h.hin j hj with h5|h5
            · exact hne j h5 e
            · omega
          have next : ∀ (held' : List Nat) v post w', held'.Nodup → (∀ k ∈ held', k ∈ i :: ord ∨ (os.length ≤ k ∧ k < os.length + P0.length)) → (∀ k, (k ∈ i :: ord ∨ (os.length ≤ k ∧ k < os.length + P0.length)) → (∀ j ∈ i :: ord, tau.getD j none ≠ some k) → k ∈ held') → R i ((dps.getD i []).map vf) v post →
              Mem w0 (held'.flatMap (fun k=>if k=i then post else pf k)++l) w'→wpAny P .any os.toArray Q f (listed.setIfInBounds i true) (a.put (dsts.getD i none) v) w':=by
            intro held' v post w' hh1 hh2 hh3 hv hm
            refine ih (listed.setIfInBounds i true) (i::ord) held' (fun k=>if k=i then v else vf k) (fun k=>if k=i then post else pf k) _ w' (by simp;omega) ⟨?_,?_,?_,?_,?_,?_,?_,hh1,hh2,hh3,?_,hm,?_,?_,?_,?_⟩
            · simp[h.size]
            · intro k hk
              by_cases hki:k=i
              · subst hki
                have hs:k<listed.size:=by rw[h.size];exact hk
                simp[Array.getD_eq_getD_getElem?,hs]
              · rw [getD_set_ne true (fun e => hki e.symm), h.iff k hk]
                simp[hki]
            · intro k hk;rcases List.mem_cons.1 hk with rfl|hk;exact him;exact h.low k hk
            · intro k hk j hj
              rcases List.mem_cons.1 hk with rfl|hk
              · exact List.mem_cons_of_mem _ (h3 j hj)
              · exact List.mem_cons_of_mem _ (h.closed k hk j hj)
            · exact List.nodup_cons.2 ⟨h2,h.nodup⟩
            · intro k hk j hj
              rcases List.mem_cons.1 hk with rfl|hk
              · exact List.mem_cons_of_mem _ (hsub j hj)
              · exact List.mem_cons_of_mem _ (h.dcl k hk j hj)
            · intro k hk
              rcases List.mem_cons.1 hk with rfl|hk
              · have e : (dps.getD k []).map (fun j => if j = k then v else vf j) = (dps.getD k []).map vf := List.map_congr_left fun j hj => if_neg (hne j (hsub j hj))
                rw[e,if_pos rfl,if_pos rfl];exact hv
              · have e : (dps.getD k []).map (fun j => if j = i then v else vf j) = (dps.getD k []).map vf := List.map_congr_left fun j hj => if_neg (hne j (h.dcl k hk j hj))
                rw[e,if_neg (hne k hk),if_neg (hne k hk)];exact h.rel k hk
            · intro k hk;rw[if_neg (by omega)];exact h.hP k hk
            · cases hdi:dsts.getD i none<;>simp[Act.put,h.asize]
            · cases hdi:dsts.getD i none<;>exact h.defers
            · intro d u hd
              cases hdi:dsts.getD i none with
              | none=>exact h.env d u hd
              | some d0=>
                have hdne:d0≠d:=fun e=>by rw[←e,hdnone _ hdi] at hd;cases hd
                simp only[Act.put]
                rw[Array.getElem?_setIfInBounds_ne hdne]
                exact h.env d u hd
            · intro k hk d hd
              cases hdi:dsts.getD i none with
              | none=>
                rcases List.mem_cons.1 hk with rfl|hk
                · rw[List.getD_eq_getElem?_getD,hd] at hdi;cases hdi
                · show a.tmps[d]? = _
                  rw[if_neg (hne k hk)];exact h.slots k hk d hd
              | some d0=>
                have hlt:d0<a.tmps.size:=by rw[h.asize];exact hdlt _ hdi
                rcases List.mem_cons.1 hk with rfl|hk
                · have : d = d0 := by rw [List.getD_eq_getElem?_getD, hd] at hdi; exact Option.some.inj hdi
                  subst this
                  simp only[Act.put,if_true]
                  simp only[Array.getElem?_setIfInBounds_self_of_lt hlt]
                · have hdne:d0≠d:=by
                    intro e
                    have hk2:k<dsts.length:=(List.getElem?_eq_some_iff.1 hd).1
                    have hdk:dsts.getD k none=some d:=by rw[List.getD_eq_getElem?_getD,hd];rfl
                    rcases hdn i him k (by omega) with(hx|hx)|hx
                    · exact hne k hk hx.symm
                    · rw[hdi] at hx;cases hx
                    · exact hx (by rw[hdi,hdk,e])
                  simp only[Act.put]
                  rw[Array.getElem?_setIfInBounds_ne hdne,if_neg (hne k hk)]
                  exact h.slots k hk d hd
          unfold wpOp
          have hoa:os.toArray[i]? = some os[i]:=by simp[h1]
          rw[hoa]
          simp only
          have hpost:∀(hs:List Nat) (post:List HP),(∀k∈hs,k≠i)→(i::hs).flatMap (fun k=>if k=i then post else pf k)=post++hs.flatMap pf:=fun hs post hx=>by
            rw[List.flatMap_cons,if_pos rfl]
            congr 1
            rw[List.flatMap_def,List.flatMap_def]
            congr 1
            exact List.map_congr_left fun k hk=>if_neg (hx k hk)
          cases ht:tau.getD i none with
          | none=>
            rw[ht] at hobl
            have hst:=h.st hml' hsub (h.mem.pick hqi.2 hqheld)
            have next1:∀v post w',R i ((dps.getD i []).map vf) v post→Mem w post w'→wpAny P .any os.toArray Q f (listed.setIfInBounds i true) (a.put (dsts.getD i none) v) w':=fun v post w' hv hm=>by
              refine next (i::held) v post w' (List.nodup_cons.2 ⟨fun hx=>hneh i hx rfl,h.hn⟩) (fun k hk=>?_) (fun k hk hk2=>?_) hv ?_
              · rcases List.mem_cons.1 hk with rfl | hk
                · exact .inl List.mem_cons_self
                · exact(h.hin k hk).imp (List.mem_cons_of_mem _) (fun x=>x)
              · by_cases hki : k = i
                · rw[hki];exact List.mem_cons_self
                · refine List.mem_cons_of_mem _ (h.hall k (hk.imp (fun hx=>by rcases List.mem_cons.1 hx with hx|hx;exact absurd hx hki;exact hx) (fun x=>x)) (fun j hj=>hk2 j (List.mem_cons_of_mem _ hj)))
              · rw[hpost held post hneh,List.append_assoc];exact h.mem.app hm
            rcases hobl with⟨hw,hq⟩|⟨hw,hq⟩
            · rw [if_pos (hst.wanted hw)]
              refine .inl (hq a w hst Q _ fun v post w' hv hm=>?_)
              rw[hdd]
              exact next1 v post w' hv hm
            · rw [if_neg (by rw [hst.wanted hw]; decide), hdd]
              exact next1 undef [] w hq (Mem.refl w)
          | some hh=>
            rw[ht] at hobl
            have hth2:=hth i him
            rw[ht] at hth2
            simp only[Bool.and_eq_true,Bool.or_eq_true,Nat.ble_eq,Nat.blt_eq,beq_iff_eq,List.all_eq_true,List.mem_range,bne_iff_ne,List.contains_iff_mem] at hth2
            have hheld:hh∈held:=h.hall hh (hth2.1.symm.imp (fun hx=>hsub hh hx) (fun x=>x)) (fun k hk=>(hth2.2 k (h.low k hk)).resolve_left (hne k hk))
            have hperm:=List.perm_cons_erase hheld
            have hmem:Mem w0 (pf hh++((held.erase hh).flatMap pf++l)) w:=by
              have:=h.mem.perm ((hperm.flatMap_right pf).append_right l)
              rwa [List.flatMap_cons,List.append_assoc] at this
            have hnin:hh∉qd.getD i []:=fun hx=>by
              rcases(hqi.1 hh hx).2 i him with h5|⟨h5, -⟩
              · exact h5 ht
              · exact h5 rfl
            have hconv:∀w,Mem w0 ((held.erase hh).flatMap pf++l) w→Mem w0 ((qd.getD i []).flatMap pf++l) w:=fun w hm=>hm.pick hqi.2 (fun j hj=>(List.mem_erase_of_ne (fun (e:j=hh)=>hnin (by rw[←e];exact hj))).2 (hqheld j hj))
            have hst:=h.st hml' hsub hmem
            have hneh2:∀k∈held.erase hh,k≠i:=fun k hk=>hneh k (List.mem_of_mem_erase hk)
            have next2:∀v post w',R i ((dps.getD i []).map vf) v post→Mem w0 (post++((held.erase hh).flatMap pf++l)) w'→wpAny P .any os.toArray Q f (listed.setIfInBounds i true) (a.put (dsts.getD i none) v) w':=fun v post w' hv hm=>by
              refine next (i::held.erase hh) v post w' (List.nodup_cons.2 ⟨fun hx=>hneh2 i hx rfl,h.hn.erase hh⟩) (fun k hk=>?_) (fun k hk hk2=>?_) hv ?_
              · rcases List.mem_cons.1 hk with rfl | hk
                · exact .inl List.mem_cons_self
                · exact(h.hin k (List.mem_of_mem_erase hk)).imp (List.mem_cons_of_mem _) (fun x=>x)
              · by_cases hki : k = i
                · rw[hki];exact List.mem_cons_self
                · have hkh : k ≠ hh := fun e => hk2 i List.mem_cons_self (by rw [ht, e])
                  exact List.mem_cons_of_mem _ ((List.mem_erase_of_ne hkh).2 (h.hall k (hk.imp (fun hx=>by rcases List.mem_cons.1 hx with hx|hx;exact absurd hx hki;exact hx) (fun x=>x)) (fun j hj=>hk2 j (List.mem_cons_of_mem _ hj))))
              · rw[hpost _ post hneh2,List.append_assoc];exact hm
            rcases hobl with⟨hw,hq⟩|⟨hw,hq⟩
            · rw [if_pos (hst.wanted hw)]
              refine .inl (hq _ hconv a w hst Q _ fun v post w' hv hm=>?_)
              rw[hdd]
              exact next2 v post w' hv hm
            · rw [if_neg (by rw [hst.wanted hw]; decide), hdd]
              exact next2 undef (pf hh) w hq hmem
  refine key os.length (Array.replicate os.length false) [] ((List.range P0.length).map (os.length + ·)) (fun _=>undef) (fun k=>if os.length≤k then P0.getD (k-os.length) [] else []) a _ (by simp) ⟨by simp,?_,by simp,by simp,by simp,by simp,by simp,?_,?_,?_,?_,?_,st.size,st.defers,st.env,by simp⟩
  · intro i hi;simp[hi]
  · exact vV _ _
  · intro i hi
    simp only[List.mem_map,List.mem_range] at hi
    obtain⟨k,hk,rfl⟩:=hi
    exact .inr ⟨by omega,by omega⟩
  · rintro i (hi | ⟨h1, h2⟩) _
    · cases hi
    · simp only[List.mem_map,List.mem_range];exact⟨i-os.length,by omega,by omega⟩
  · intro k hk;rw[if_pos (by omega),Nat.add_sub_cancel_left]
  · have e:((List.range P0.length).map (os.length + ·)).flatMap (fun k=>if os.length≤k then P0.getD (k-os.length) [] else [])=P0.flatten:=by
      rw[List.flatMap_map]
      have:(fun a:Nat=>(if os.length≤os.length+a then P0.getD (os.length+a-os.length) [] else []))=fun a=>P0.getD a []:=by
        funext a;rw[if_pos (by omega),Nat.add_sub_cancel_left]
      rw[List.flatMap_def]
      rw[show(List.map (fun a:Nat=>(if os.length≤os.length+a then P0.getD (os.length+a-os.length) [] else [])) (List.range P0.length))=P0 from by rw[this];exact yB P0]
    rw[e];exact st.mem.drawn _
def Dues4 (P:Program) (ops:Array Oper) (N:Nat) (w0:World) (l:List HP) (env:List (Nat×Value)) (P0:List (List HP)) (mu:Nat) (dsts:List (Option Nat)) (all qall:List (List Nat)) (tau:List (Option Nat)) (R:Nat→List Value→Value→List HP→Prop):Nat→List (List Nat)→List Oper→Prop
  | _,_,[]=>True
  | k,dss,o::os=>(∀(vf:Nat→Value) (pf:Nat→List HP),(∀k,k<P0.length→pf (mu+k)=P0.getD k [])→(∀j∈all.getD k [],R j ((all.getD j []).map vf) (vf j) (pf j))→Obl2 P ops N w0 (tau.getD k none) pf ((qall.getD k []).flatMap pf++l) (envOf3 dsts vf (all.getD k [])++env) o (R k ((all.getD k []).map vf)))∧Dues4 P ops N w0 l env P0 mu dsts all qall tau R (k+1) dss os
theorem wX {P:Program}{ops:Array Oper}{N:Nat}{w0:World}{l:List HP}{env:List (Nat×Value)}{P0:List (List HP)}{mu:Nat}{dsts:List (Option Nat)}{all qall:List (List Nat)}{tau:List (Option Nat)}{R:Nat→List Value→Value→List HP→Prop}:∀(os:List Oper) (dss:List (List Nat)) (k:Nat),Dues4 P ops N w0 l env P0 mu dsts all qall tau R k dss os→∀i o,os[i]? = some o→∀vf pf,(∀k,k<P0.length→pf (mu+k)=P0.getD k [])→(∀j∈all.getD (k+i) [],R j ((all.getD j []).map vf) (vf j) (pf j))→Obl2 P ops N w0 (tau.getD (k+i) none) pf ((qall.getD (k+i) []).flatMap pf++l) (envOf3 dsts vf (all.getD (k+i) [])++env) o (R (k+i) ((all.getD (k+i) []).map vf))
  | [],_,_,_,i,o,ho,_,_,_,_=>by simp at ho
  | o'::os,dss,k,h,0,o,ho,vf,pf,hP,hR=>by simp at ho;subst ho;exact h.1 vf pf hP hR
  | o'::os,dss,k,h,i+1,o,ho,vf,pf,hP,hR=>by
    have e:k+1+i=k+(i+1):=by omega
    have:=wX os dss (k+1) h.2 i o (by simpa using ho) vf pf hP (by rw[e];exact hR)
    rwa [e] at this
theorem eF {id:Nat}(hmix:P.follows .mixedOrders=true) (m:Nat) (qs:List Nat) (quiet tail:List Oper) (dps:List (List Nat)) (dsts:List (Option Nat)) (R:Nat→List Value→Value→List HP→Prop) (qd:List (List Nat)) (tau:List (Option Nat)) (P0:List (List HP)) (fl:List Nat) (mu:Nat)
    (hos:os=quiet++tail) (hq:(Nat.beq quiet.length m&&(List.range m==qs)&&Nat.beq os.length mu)=true) (hok:drawOk3 os m dps dsts=true) (htau:tauOk4 os m P0.length dps qd tau fl=true) (hfresh:dsts.all (fun d=>match d with|some d=>(lk env d).isNone|none=>true)=true) (hN:dsts.all (fun d=>match d with|some d=>Nat.blt d N|none=>true)=true)
    (due:Dues4 P os.toArray N w0 l env P0 mu dsts dps qd tau R 0 [] quiet)
    (fin:∀vf pf,(∀k,k<P0.length→pf (mu+k)=P0.getD k [])→(∀i,i<m→R i ((dps.getD i []).map vf) (vf i) (pf i))→HL P N os.toArray w0 (fl.flatMap pf++l) (envOf3 dsts vf qs++env) tail Q):HC P N w0 (P0.flatten++l) env (.region id os.toArray true) Q:=by
  simp only[Bool.and_eq_true,Nat.beq_eq,beq_iff_eq] at hq
  obtain⟨⟨hq1,hq2⟩,hq3⟩:=hq
  refine sT hmix m dps dsts R qd tau P0 fl hok htau hfresh hN (fun i o ho hi vf pf hP hR=>?_) (fun vf pf hP hR=>?_)
  · have ho' : quiet[i]? = some o := by rw [hos, List.getElem?_append_left (by omega)] at ho; exact ho
    have:=wX quiet [] 0 due i o ho' vf pf (by rw[←hq3];exact hP) (by rw[Nat.zero_add];exact hR)
    rwa [Nat.zero_add] at this
  · rw[hq2,hos,List.drop_left' hq1,←hos];exact fin vf pf (by rw[←hq3];exact hP) hR
end
theorem Gu {os:List Oper}{m:Nat}{dps:List (List Nat)}{dsts:List Nat}(hok:drawOk os m dps dsts=true):dsts.length=m∧∀i,i<m→∀j∈dps.getD i [],j<m:=by
  simp only[drawOk,Bool.and_eq_true,Nat.ble_eq,List.all_eq_true,List.mem_range,Bool.or_eq_true,Nat.blt_eq,beq_iff_eq,decide_eq_true_eq] at hok
  obtain⟨⟨⟨⟨⟨⟨hml,hback⟩,hcov⟩,hrd⟩,hdst⟩,hdn⟩,hdp⟩:=hok
  have hmsk:∀i j,((msk ((List.range os.length).map (depsOf os)) []).getD i 0).testBit j=true→Dep os i j:=uB os _ _ (fun t ds ht d hd=>by
    rw[List.getElem?_map] at ht
    by_cases h:t<os.length
    · rw[List.getElem?_range h] at ht;simp at ht;subst ht;simpa using hd
    · rw[List.getElem?_eq_none (by simp;omega)] at ht;cases ht) (fun i j h=>by simp at h)
  have hlt:∀i j,Dep os i j→i<os.length→j<i:=by
    intro i j h
    induction h with
    | one h=>intro hi;exact hback _ hi _ h
    | more h _ ih=>intro hi;have h1:=hback _ hi _ h;have:=ih (by omega);omega
  refine⟨by have:=congrArg List.length hdst;simp at this;omega,fun i hi j hj=>?_⟩
  have:=hlt i j (hmsk i j ((hdp i hi).1 j hj)) (by omega)
  omega
theorem rB {dsts:List Nat}(i:Nat):(dsts.map some).getD i none=dsts[i]?:=by
  rw[List.getD_eq_getElem?_getD,List.getElem?_map];cases dsts[i]?<;>rfl
theorem ok3_of {os:List Oper}{m:Nat}{dps:List (List Nat)}{dsts:List Nat}(hok:drawOk os m dps dsts=true):drawOk3 os m dps (dsts.map some)=true:=by
  have hl:=(Gu hok).1
  simp only[drawOk,Bool.and_eq_true] at hok
  obtain⟨⟨⟨⟨⟨⟨g1,g2⟩,g3⟩,g4⟩,g5⟩,g6⟩,g7⟩:=hok
  simp only[drawOk3,Bool.and_eq_true]
  refine⟨⟨⟨⟨⟨⟨g1,g2⟩,g3⟩,g4⟩,g5⟩,?_⟩,g7⟩
  have hn:=of_decide_eq_true g6
  simp only[List.all_eq_true,List.mem_range,Bool.or_eq_true,beq_iff_eq,bne_iff_ne]
  intro i hi j hj
  by_cases h:i=j
  · exact .inl (.inl h)
  refine .inr fun e=>h ?_
  rw[rB,rB] at e
  exact(List.getElem?_inj (by omega) hn).1 e
theorem uR {dsts:List Nat}{vf:Nat→Value}:∀(is:List Nat),(∀j∈is,j<dsts.length)→envOf3 (dsts.map some) vf is=envOf dsts vf is
  | [],_=>rfl
  | i::is,h=>by
    have hi:=h i List.mem_cons_self
    have e:(dsts.map some).getD i none=some (dsts.getD i 0):=by rw[rB,List.getElem?_eq_getElem hi,List.getD_eq_getElem?_getD,List.getElem?_eq_getElem hi];rfl
    have ih:=uR (vf:=vf) is (fun j hj=>h j (List.mem_cons_of_mem _ hj))
    unfold envOf3 envOf at ih ⊢
    rw[List.filterMap_cons,e,List.map_cons,←ih];rfl
theorem Ey {os:List Oper}{m:Nat}{dps qd:List (List Nat)}{tau:List (Option Nat)}{fl:List Nat}(h:tauOk os m dps qd tau fl=true):tauOk4 os m 1 dps qd tau fl=true:=by
  simp only[tauOk,tauOk4,Bool.and_eq_true,List.all_eq_true,List.mem_range,Bool.or_eq_true,decide_eq_true_eq,beq_iff_eq,Nat.blt_eq,Nat.ble_eq] at h ⊢
  obtain⟨⟨⟨h1,h2⟩,h3⟩,h4⟩:=h
  refine⟨⟨⟨fun i hi=>⟨fun j hj=>⟨.inl ((h1 i hi).1 j hj).1,fun k hk=>.inl (((h1 i hi).1 j hj).2 k hk)⟩,(h1 i hi).2⟩,fun i hi=>?_⟩,fun j hj=>⟨?_,(h3 j hj).2⟩⟩,h4⟩
  · have h9 := h2 i hi
    revert h9
    cases tau.getD i none with
    | none=>exact id
    | some t=>
      intro h9
      simp only[Bool.and_eq_true,Bool.or_eq_true,List.all_eq_true,List.mem_range,beq_iff_eq,Nat.ble_eq,Nat.blt_eq] at h9 ⊢
      exact⟨h9.1.elim (fun e=>.inl (by omega)) .inr,h9.2⟩
  · exact(h3 j hj).1.elim .inl (fun e=>.inr (by omega))
section
variable {P:Program}{N:Nat}{w0:World}{l:List HP}{env:List (Nat×Value)}{Q:Post}{os:List Oper}
theorem sU {id:Nat}(hmix:P.follows .mixedOrders=true) (m:Nat) (dps:List (List Nat)) (dsts:List Nat) (R:Nat→List Value→Value→List HP→Prop) (qd:List (List Nat)) (tau:List (Option Nat)) (P0:List HP) (fl:List Nat) (hok:drawOk os m dps dsts=true) (htau:tauOk os m dps qd tau fl=true) (hfresh:dsts.all (fun d=>(lk env d).isNone)=true) (hN:dsts.all (fun d=>Nat.blt d N)=true)
    (due:∀i o,os[i]? = some o→i<m→∀vf pf,pf os.length=P0→(∀j∈dps.getD i [],R j ((dps.getD j []).map vf) (vf j) (pf j))→Obl2 P os.toArray N w0 (tau.getD i none) pf ((qd.getD i []).flatMap pf++l) (envOf dsts vf (dps.getD i [])++env) o (R i ((dps.getD i []).map vf)))
    (fin:∀vf pf,pf os.length=P0→(∀i,i<m→R i ((dps.getD i []).map vf) (vf i) (pf i))→HL P N os.toArray w0 (fl.flatMap pf++l) (envOf dsts vf (List.range m)++env) (os.drop m) Q):HC P N w0 (P0++l) env (.region id os.toArray true) Q:=by
  obtain⟨hl,hlt⟩:=Gu hok
  have hE:∀vf i,i<m→envOf3 (dsts.map some) vf (dps.getD i [])=envOf dsts vf (dps.getD i []):=fun vf i hi=>uR _ (fun j hj=>by have:=hlt i hi j hj;omega)
  have h:=sT (l:=l) (env:=env) (Q:=Q) (N:=N) (w0:=w0) (id:=id) hmix m dps (dsts.map some) R qd tau [P0] fl (ok3_of hok) (Ey htau) (by rw[List.all_map];exact hfresh) (by rw[List.all_map];exact hN)
    (fun i o ho hi vf pf hP hR=>by rw[hE vf i hi];exact due i o ho hi vf pf (hP 0 (Nat.zero_lt_one)) hR)
    (fun vf pf hP hR=>by rw[uR _ (fun j hj=>by rw[List.mem_range] at hj;omega)];exact fin vf pf (hP 0 (Nat.zero_lt_one)) hR)
  simpa using h
theorem Dw {id:Nat}(hmix:P.follows .mixedOrders=true) (m:Nat) (dps:List (List Nat)) (dsts:List Nat) (R:Nat→List Value→Value→List HP→Prop) (hok:drawOk os m dps dsts=true) (hfresh:dsts.all (fun d=>(lk env d).isNone)=true) (hN:dsts.all (fun d=>Nat.blt d N)=true)
    (due:∀i o,os[i]? = some o→i<m→∀vf pf,(∀j∈dps.getD i [],R j ((dps.getD j []).map vf) (vf j) (pf j))→Obl P os.toArray N w0 ((dps.getD i []).flatMap pf++l) (envOf dsts vf (dps.getD i [])++env) o (R i ((dps.getD i []).map vf)))
    (fin:∀vf pf,(∀i,i<m→R i ((dps.getD i []).map vf) (vf i) (pf i))→HL P N os.toArray w0 ((List.range m).flatMap pf++l) (envOf dsts vf (List.range m)++env) (os.drop m) Q):HC P N w0 l env (.region id os.toArray true) Q:=by
  have hdn:∀i,i<m→(dps.getD i []).Nodup:=by
    have h:=hok
    simp only[drawOk,Bool.and_eq_true,List.all_eq_true,List.mem_range,decide_eq_true_eq] at h
    exact fun i hi=>(h.2 i hi).2
  refine sU (P0:=[]) hmix m dps dsts R dps [] (List.range m) hok ?_ hfresh hN (fun i o ho hi vf pf _ hR=>due i o ho hi vf pf hR) (fun vf pf _ hR=>fin vf pf hR)
  simp only[tauOk,Bool.and_eq_true,List.all_eq_true,List.mem_range,decide_eq_true_eq,Bool.or_eq_true,Nat.blt_eq]
  refine⟨⟨⟨fun i hi=>⟨fun j hj=>⟨List.contains_iff_mem.2 hj,fun k hk=>by simp⟩,hdn i hi⟩,fun i hi=>by simp⟩,fun j hj=>⟨.inl hj,fun k hk=>by simp⟩⟩,List.nodup_range⟩
theorem eV {id:Nat}(hmix:P.follows .mixedOrders=true) (m:Nat) (qs:List Nat) (quiet tail:List Oper) (dps:List (List Nat)) (dsts:List Nat) (R:Nat→List Value→Value→List HP→Prop) (hos:os=quiet++tail) (hq:(Nat.beq quiet.length m&&(List.range m==qs))=true) (hok:drawOk os m dps dsts=true) (hfresh:dsts.all (fun d=>(lk env d).isNone)=true) (hN:dsts.all (fun d=>Nat.blt d N)=true)
    (due:Dues P os.toArray N w0 l env dsts dps R 0 dps quiet)
    (fin:∀vf pf,(∀i,i<m→R i ((dps.getD i []).map vf) (vf i) (pf i))→HL P N os.toArray w0 (qs.flatMap pf++l) (envOf dsts vf qs++env) tail Q):HC P N w0 l env (.region id os.toArray true) Q:=by
  simp only[Bool.and_eq_true,Nat.beq_eq,beq_iff_eq] at hq
  refine Dw hmix m dps dsts R hok hfresh hN (fun i o ho hi vf pf hR=>?_) (fun vf pf hR=>?_)
  · have ho' : quiet[i]? = some o := by rw [hos, List.getElem?_append_left (by omega)] at ho; exact ho
    have:=uS quiet dps 0 due i o ho' vf pf hR
    rwa [Nat.zero_add] at this
  · rw[hq.2,hos,List.drop_left' hq.1,←hos];exact fin vf pf hR
theorem cJ {id:Nat}(m:Nat) (dps:List (List Nat)) (dsts:List Nat) (vals:List Value) (hchk:(P.follows .mixedOrders&&Nat.ble m os.length&&drawOk os m dps dsts&&dsts.all (fun d=>Nat.blt d N))=true) (hfresh:dsts.all (fun d=>(lk env d).isNone)=true)
    (due:DuesV P os.toArray N w0 l env dsts vals 0 dps (os.take m)) (fin:HL P N os.toArray w0 l (envV dsts vals (List.range m)++env) (os.drop m) Q):HC P N w0 l env (.region id os.toArray true) Q:=by
  simp only[Bool.and_eq_true,Nat.ble_eq] at hchk
  obtain⟨⟨⟨h1,h2⟩,h3⟩,h4⟩:=hchk
  refine eV h1 m (List.range m) (os.take m) (os.drop m) dps dsts (fun i _ v p=>v=vals.getD i undef∧p=[]) (List.take_append_drop m os).symm ?_ h3 hfresh h4 (oW _ _ _ due) (fun vf pf hR=>?_)
  · simp only[Bool.and_eq_true,Nat.beq_eq,beq_self_eq_true,and_true,List.length_take];omega
  · have e1 : (List.range m).flatMap pf = [] := List.flatMap_eq_nil_iff.2 (fun j hj => (hR j (List.mem_range.1 hj)).2)
    have e2:envOf dsts vf (List.range m)=envV dsts vals (List.range m):=List.map_congr_left (fun j hj=>by rw[(hR j (List.mem_range.1 hj)).1])
    rw[e1,e2,List.nil_append];exact fin
theorem gG {id:Nat}(hmix:P.follows .mixedOrders=true) (m:Nat) (qs:List Nat) (quiet tail:List Oper) (dps:List (List Nat)) (dsts:List Nat) (R:Nat→List Value→Value→List HP→Prop) (qd:List (List Nat)) (tau:List (Option Nat)) (P0:List HP) (fl:List Nat) (mu:Nat)
    (hos:os=quiet++tail) (hq:(Nat.beq quiet.length m&&(List.range m==qs)&&Nat.beq os.length mu)=true) (hok:drawOk os m dps dsts=true) (htau:tauOk os m dps qd tau fl=true) (hfresh:dsts.all (fun d=>(lk env d).isNone)=true) (hN:dsts.all (fun d=>Nat.blt d N)=true)
    (due:Dues2 P os.toArray N w0 l env P0 mu dsts dps qd tau R 0 [] quiet)
    (fin:∀vf pf,pf mu=P0→(∀i,i<m→R i ((dps.getD i []).map vf) (vf i) (pf i))→HL P N os.toArray w0 (fl.flatMap pf++l) (envOf dsts vf qs++env) tail Q):HC P N w0 (P0++l) env (.region id os.toArray true) Q:=by
  simp only[Bool.and_eq_true,Nat.beq_eq,beq_iff_eq] at hq
  obtain⟨⟨hq1,hq2⟩,hq3⟩:=hq
  refine sU hmix m dps dsts R qd tau P0 fl hok htau hfresh hN (fun i o ho hi vf pf hP hR=>?_) (fun vf pf hP hR=>?_)
  · have ho' : quiet[i]? = some o := by rw [hos, List.getElem?_append_left (by omega)] at ho; exact ho
    have:=wY quiet [] 0 due i o ho' vf pf (by rw[←hq3];exact hP) (by rw[Nat.zero_add];exact hR)
    rwa [Nat.zero_add] at this
  · rw[hq2,hos,List.drop_left' hq1,←hos];exact fin vf pf (by rw[←hq3];exact hP) hR
end
section
variable {P:Program}{N:Nat}{w0:World}{l:List HP}{env:List (Nat×Value)}{o:Oper}
theorem fY {t t':TypeId}{x y:Operand}{k kk:IntKind}{m n r:Int}(ho:o.op=.binOp .shl t x y t') (hx:ev env x=some (.int k m)) (hy:ev env y=some (.int kk n)) (hk:k.bits=64)
    (hn:0≤n∧n≤63) (hr:k.wrap (m*2 ^ n.toNat)=r):RunV P N w0 l env o (.int k r):=fun a w st=>by
    have h1:¬n<0:=by omega
    have h2:min n.toNat k.bits=n.toNat:=by rw[hk];omega
    subst hr
    simp[execOp,ho,st.eval hx,st.eval hy,eqGuard,binOp,Op.shift,h1,h2]
end
def intOf_o:Value→Int
  | .int _ n=>n
  | _=>0
theorem dY {α:Type}(f:α→List Value) (es:List α) (e:α) (xs:List Value) (h:xs=f e):es.flatMap f++xs=(es++[e]).flatMap f:=by
  rw[List.flatMap_append,h];simp
theorem oU {α:Type}(f:α→List Value) (g:α→Value) (hf:∀a,f a=[g a]) (es:List α):es.flatMap f=es.map g:=by
  induction es with
  | nil=>rfl
  | cons a es ih=>rw[List.flatMap_cons,List.map_cons,ih,hf];rfl
theorem dG {α:Type}(f:α→List Value) (g:α→Value) (hf:∀a,f a=[g a]) (es:List α) (d:α) {j:Nat}(h:j<es.length):(es.flatMap f)[j*1]? = some (g (es.getD j d)):=by
  rw[oU f g hf,Nat.mul_one,List.getElem?_map,List.getD_eq_getElem?_getD,List.getElem?_eq_getElem h];rfl
theorem fV {α:Type}(f:α→List Value) (g:α→Value) (hf:∀a,f a=[g a]) (es:List α) (e:α) {j:Nat}{u:Value}(hu:u=g e):(es.flatMap f).set (j*1) u=(es.set j e).flatMap f:=by
  rw[oU f g hf,oU f g hf,Nat.mul_one,List.map_set,hu]
section
variable {P:Program}{N:Nat}{w0:World}{l:List HP}{env:List (Nat×Value)}{o:Oper}
theorem tP {t:Array TypeId}{x y:Operand}{m n:Int}(ho:o.op=.call { callee:=.builtin .max,args:=#[x,y],argTypes:=t }) (hx:ev env x=some (.int .i64 m)) (hy:ev env y=some (.int .i64 n)):RunV P N w0 l env o (.int .i64 (if m<n then n else m)):=fun a w st=>by
  have bm:∀(ats:Array TypeId) (ty:TypeId) (cs:Array Bool) (args:Array Value),builtin .max ats ty cs args=(do pure (.value (←Builtin.max_ ats ty args))):=fun _ _ _ _=>rfl
  have h:=run_max_int2 (P:=P) w t o.type .i64 .i64 m n
  simp only[execOp,ho,resolve,invoke,bm,Sem.run_bind,Sem.run_pure,Result.andThen_ok,List.map_toArray,List.map_cons,List.map_nil,st.eval hx,st.eval hy,h]
end
structure Bl where
  b:Bool
abbrev bl0:Bl:=⟨false⟩
def blC (x:Bl):List Value:=[.bool x.b]
def curE (g:Nat) (a:Option Addr) (len cap:Nat):HP:=⟨fun k=>k=g,fun w=>(∃i:Nat,i≤len∧w.cell? ⟨g,1,none⟩=some (.int .i64 (i:Int)))∧(∃h:Int,w.cell? ⟨g,2,none⟩=some (.int .i64 h))∧
  w.cell? ⟨g,0,none⟩=some (.slice a len cap)∧w.frozen? ⟨g,1,none⟩=false∧w.frozen? ⟨g,2,none⟩=false⟩
theorem Cd {w w':World}{g o:Nat}(h:w'.heap[g]? = w.heap[g]?):w'.cell? ⟨g,o,none⟩=w.cell? ⟨g,o,none⟩:=by simp[World.cell?,h]
theorem wT {w w':World}{g o:Nat}(h:w'.heap[g]? = w.heap[g]?):w'.frozen? ⟨g,o,none⟩=w.frozen? ⟨g,o,none⟩:=by simp[World.frozen?,h]
theorem Am (g:Nat) (a:Option Addr) (len cap:Nat):(curE g a len cap).Ok:=fun w w' _ hb h=>by
  have e:=hb g rfl
  have c:=fun o=>Cd (o:=o) e
  have f:=fun o=>wT (o:=o) e
  simp only[curE] at h ⊢
  rw[c 0,c 1,c 2,f 1,f 2];exact h
theorem cur_of {w0 w:World}{l:List HP}{g:Nat}{a:Option Addr}{len cap:Nat}{z:List Int}(hm:Mem w0 (curE g a len cap::l) w) (hb:BRow .u8 w0 a len cap z):Cur w w0.heap.size g a len cap z:=by
  obtain⟨h1,h2,h3,h4,h5⟩:=hm.holds _ List.mem_cons_self
  exact⟨h1,h2,h3,h4,h5,hb.below hm.bel,(hm.new _ List.mem_cons_self g rfl).1,hb.old⟩
theorem Eg {w0 w w':World}{l:List HP}{B g:Nat}{a:Option Addr}{len cap:Nat}{z:List Int}(hm:Mem w0 (curE g a len cap::l) w) (hc:Cur w' B g a len cap z) (hg:w.grownBy w' (some g)):Mem w0 (curE g a len cap::l) w':=
  hm.turn hg.os hg.tape hg.output hg.size (fun b hb hf=>hg.block b hb (fun e=>hf (by cases e;rfl))) (Am g a len cap) (fun b hb=>.inl hb) (fun b hb=>by cases hb;exact hc.lt) ⟨hc.1,hc.2.1,hc.2.2.1,hc.2.2.2.1,hc.2.2.2.2.1⟩
theorem Al {f:FuncId}{vs:Array Value}{R:Ending→Prop}{R':Value→Prop}{w0:World}{l:List HP}{w:World}{g:Nat}{a:Option Addr}{len cap:Nat}{z:List Int}(hm:Mem w0 (curE g a len cap::l) w) (hb:BRow .u8 w0 a len cap z)
    (h:∀w B,Cur w B g a len cap z→Calls Tryz.prog f vs w fun e w'=>R e∧Cur w' B g a len cap z∧w.grownBy w' (some g)) (hR:∀e,R e→∃v,e=.returned v∧R' v) :
    Calls Tryz.prog f vs w (fun e_ w_=>∃v_ p_,e_=.returned v_∧(R' v_∧p_=curE g a len cap)∧Mem w0 (p_::l) w_):=
  (h w _ (cur_of hm hb)).mono fun e w' ⟨he,hc,hg⟩=>by
    obtain⟨v,hv,hr⟩:=hR e he
    exact⟨v,_,hv,⟨hr,rfl⟩,Eg hm hc hg⟩
theorem qQ {w0:World}{l:List HP}{w:World}{g:Nat}{a:Option Addr}{len cap:Nat}{z:List Int}(hm:Mem w0 (curE g a len cap::l) w) (hb:BRow .u8 w0 a len cap z) (n:Int) (h1:1≤n) (h2:n≤256) :
    Calls Tryz.prog 81 #[.pointer (some ⟨g,0,none⟩),.int .i64 n] w (fun e_ w_=>∃v_ p_,e_=.returned v_∧((∃b:Bool,v_=.bool b)∧p_=curE g a len cap)∧Mem w0 (p_::l) w_):=
  Al (R':=fun v=>∃b:Bool,v=.bool b) hm hb (fun w B hc=>wH B g a len cap z n h1 h2 w hc) (fun e ⟨b,he⟩=>⟨_,he,b,rfl⟩)
theorem Fj {w:World}{a:Option Addr}{len cap:Nat}{z:List Int}(hb:BRow .u8 w a len cap z) (hlen:len≤1048576) :
    Calls Tryz.prog 15 #[.slice a len cap] w (Ret w (fun v post=>∃g,v=.pointer (some ⟨g,0,none⟩)∧post=[curE g a len cap])):=
  (yQ a len cap z w hlen hb).mono fun e w' ⟨g,he,hc,hbel⟩=>by
    refine⟨_,[curE g a len cap],he,⟨g,rfl,rfl⟩,hbel,?_,?_,?_,by simp⟩
    · intro p hp;rw[List.mem_singleton] at hp;subst hp;exact⟨hc.1,hc.2.1,hc.2.2.1,hc.2.2.2.1,hc.2.2.2.2.1⟩
    · intro p hp;rw[List.mem_singleton] at hp;subst hp;exact Am g a len cap
    · intro p hp b hf;rw[List.mem_singleton] at hp;subst hp;cases hf;exact⟨hc.base,hc.lt⟩
open Go.RowKit
theorem lU {w0:World}{l:List HP}{w:World}{g:Nat}{a:Option Addr}{len cap:Nat}{z:List Int}(hm:Mem w0 (curE g a len cap::l) w) (hb:BRow .u8 w0 a len cap z) :
    Calls Tryz.prog 75 #[.pointer (some ⟨g,0,none⟩)] w (fun e_ w_=>∃v_ p_,e_=.returned v_∧((∃x:Int,v_=.int .i64 x∧0≤x∧x<256)∧p_=curE g a len cap)∧Mem w0 (p_::l) w_):=
  Al (R':=fun v=>∃x:Int,v=.int .i64 x∧0≤x∧x<256) hm hb (fun w B hc=>pF B g a len cap z w hc) (fun e ⟨x,hx,he⟩=>⟨_,he,(x:Int),rfl,by omega,by omega⟩)
theorem dW (g:Nat) (a:Option Addr) (len cap:Nat) (z:List Int) (n:Int) (w0:World) (l:List HP) (w:World) (hm0:Mem w0 (curE g a len cap::l) w) (hb:BRow .u8 w0 a len cap z) (hn:1≤n∧n≤4294967296) :
   Calls Tryz.prog 34 #[.pointer (some ⟨g,0,none⟩),.int .i64 n] w (fun e_ w_=>∃v_ p_,e_=.returned v_∧(fun u_ p_=>(∃x:Int,u_=.int .i64 x∧0≤x∧x<n)∧p_=curE g a len cap) v_ p_∧Mem w0 (p_::l) w_):=by
 refine fW (N:=37) (args:=[.pointer (some ⟨g,0,none⟩),.int .i64 n]) Tryz.func34 rfl rfl hm0 ?_
 refine Ad _ [1,0] rfl ?_
 refine aC ?_
 refine bJ ?_
 refine aM 1 rfl ?_
 refine iS [4,1,0] rfl ?_
 refine dB ?_
 refine bF ?_
 refine aC ?_
 refine aC ?_
 refine bJ ?_
 refine aM 1 rfl ?_
 refine qY rfl rfl rfl rfl rfl rfl (fun h1=>absurd h1 (by omega)) (fun h1=>?_)
 refine iS [10,4,1,0] rfl ?_
 refine dB ?_
 refine bF ?_
 refine aS rfl ?_
 refine fP ?_
 refine bF ?_
 refine aC ?_
 refine aC ?_
 refine bJ ?_
 refine aM 1 rfl ?_
 refine qY rfl rfl rfl rfl rfl rfl (fun h2=>?_) (fun h2=>?_)
 ·
  refine iS [12,10,4,1,0] rfl ?_
  refine dB ?_
  refine bF ?_
  refine aR rfl ?_
  refine aC ?_
  refine bJ ?_
  refine aM 1 rfl ?_
  refine eH (R:=(fun u_ p_=>(∃x:Int,u_=.int .i64 x∧0≤x∧x<256)∧p_=curE g a len cap)) 0 rfl rfl (by kernel_rfl) rfl rfl (fun l' w hm=>lU hm hb) ?_
  intro v3 p4 hR5
  obtain⟨⟨xhR5,rfl,xhR50,xhR51⟩,rfl⟩:=hR5
  refine eC (l':=(curE g a len cap::l)) rfl ?_
  refine aM 1 rfl ?_
  refine mK rfl rfl rfl (xW rfl rfl rfl (by constructor<;>omega)) ?_
  refine aM 1 rfl ?_
  refine iS [12,10,4,1,0] rfl ?_
  refine dB ?_
  refine bF ?_
  refine aV ?_
  refine aL ?_
  exact gZ (p':=curE g a len cap) rfl rfl (.refl _) ⟨⟨_,rfl,Int.emod_nonneg _ (by omega),Int.emod_lt_of_pos _ (by omega)⟩,rfl⟩
 ·
  refine iS [12,10,4,1,0] rfl ?_
  refine dB ?_
  refine bF ?_
  refine aS rfl ?_
  refine fP ?_
  refine bF ?_
  refine aC ?_
  refine bJ ?_
  refine aM 1 rfl ?_
  refine eH (R:=(fun u_ p_=>(∃x:Int,u_=.int .i64 x∧0≤x∧x<256)∧p_=curE g a len cap)) 0 rfl rfl (by kernel_rfl) rfl rfl (fun l' w hm=>lU hm hb) ?_
  intro v6 p7 hR8
  obtain⟨⟨xhR8,rfl,xhR80,xhR81⟩,rfl⟩:=hR8
  refine eC (l':=(curE g a len cap::l)) rfl ?_
  refine aM 1 rfl ?_
  refine iS [12,10,5,4,1,0] rfl ?_
  refine dB ?_
  refine bF ?_
  refine aC ?_
  refine bJ ?_
  refine aM 1 rfl ?_
  refine eH (R:=(fun u_ p_=>(∃x:Int,u_=.int .i64 x∧0≤x∧x<256)∧p_=curE g a len cap)) 0 rfl rfl (by kernel_rfl) rfl rfl (fun l' w hm=>lU hm hb) ?_
  intro v9 p10 hR11
  obtain⟨⟨xhR11,rfl,xhR110,xhR111⟩,rfl⟩:=hR11
  refine eC (l':=(curE g a len cap::l)) rfl ?_
  refine aM 1 rfl ?_
  refine iS [12,10,6,5,4,1,0] rfl ?_
  refine dB ?_
  refine bF ?_
  refine aC ?_
  refine bJ ?_
  refine aM 1 rfl ?_
  refine eH (R:=(fun u_ p_=>(∃x:Int,u_=.int .i64 x∧0≤x∧x<256)∧p_=curE g a len cap)) 0 rfl rfl (by kernel_rfl) rfl rfl (fun l' w hm=>lU hm hb) ?_
  intro v12 p13 hR14
  obtain⟨⟨xhR14,rfl,xhR140,xhR141⟩,rfl⟩:=hR14
  refine eC (l':=(curE g a len cap::l)) rfl ?_
  refine aM 1 rfl ?_
  refine iS [12,10,7,6,5,4,1,0] rfl ?_
  refine dB ?_
  refine bF ?_
  refine aC ?_
  refine bJ ?_
  refine aM 1 rfl ?_
  refine eH (R:=(fun u_ p_=>(∃x:Int,u_=.int .i64 x∧0≤x∧x<256)∧p_=curE g a len cap)) 0 rfl rfl (by kernel_rfl) rfl rfl (fun l' w hm=>lU hm hb) ?_
  intro v15 p16 hR17
  obtain⟨⟨xhR17,rfl,xhR170,xhR171⟩,rfl⟩:=hR17
  refine eC (l':=(curE g a len cap::l)) rfl ?_
  refine aM 1 rfl ?_
  refine iS [12,10,8,7,6,5,4,1,0] rfl ?_
  refine dB ?_
  refine bF ?_
  refine aC ?_
  refine bJ ?_
  refine aM 1 rfl ?_
  refine mK rfl rfl rfl (fO rfl rfl rfl (by constructor<;>omega)) ?_
  refine aM 1 rfl ?_
  refine mK rfl rfl rfl (fO rfl rfl rfl (by constructor<;>omega)) ?_
  refine mK rfl rfl rfl (oI rfl rfl rfl (by constructor<;>omega)) ?_
  refine aM 1 rfl ?_
  refine mK rfl rfl rfl (fO rfl rfl rfl (by constructor<;>omega)) ?_
  refine mK rfl rfl rfl (oI rfl rfl rfl (by constructor<;>omega)) ?_
  refine aM 1 rfl ?_
  refine mK rfl rfl rfl (oI rfl rfl rfl (by constructor<;>omega)) ?_
  refine aM 1 rfl ?_
  refine mK rfl rfl rfl (xW rfl rfl rfl (by constructor<;>omega)) ?_
  refine aM 1 rfl ?_
  refine iS [12,10,8,7,6,5,4,1,0] rfl ?_
  refine dB ?_
  refine bF ?_
  refine aV ?_
  exact gZ (p':=curE g a len cap) rfl rfl (.refl _) ⟨⟨_,rfl,Int.emod_nonneg _ (by omega),Int.emod_lt_of_pos _ (by omega)⟩,rfl⟩
def hasB (xs:List Int) (x:Int):Bool:=xs.contains x
section
variable {P:Program}{N:Nat}{w0:World}{l:List HP}{env:List (Nat×Value)}{o:Oper}
theorem fH {t e:TypeId}{x:Operand}{v:Value}(ho:o.op=.buildSlice t 1 #[(0,x)]) (hu:P.underlying t=some (.slice e)) (hi:(P.info? e).map (fun i=>(i.zero,i.size))=some (some (.slice none 0 0),1)) (hx:ev env x=some v) (h1:v.oneCell'=true) :
    RunQ P N w0 l env o (IsRow e 1 1 [v]):=
  bB (vs:=[(0,v)]) ho hu hi (by decide) (by simp[hx]) (by cases v<;>first|(exact absurd h1 Bool.false_ne_true)|kernel_rfl) rfl
end
theorem mF {w0:World}{ps l:List HP}{p:HP}:Conv w0 (bigE ps::p::l) (bigE (ps++[p])::l):=fun w hm=>by
  have h1:Mem w0 (ps++(p::l)) w:=hm.unbig
  have h2:Mem w0 ((ps++[p])++l) w:=by simpa using h1
  exact h2.big
structure CRow where
  v:Value
  xs:List Int
abbrev crow0:CRow:=⟨.slice none 0 0,[]⟩
def crowC (r:CRow):List Value:=[r.v]
abbrev cPart (r:CRow):HP:=rowE 3 1 r.v r.xs.length (r.xs.map (Value.int .i64))
abbrev clE (v:Value) (rs:List CRow):HP:=bigE [bigE (rs.map cPart),rowE 26 1 v rs.length (rs.flatMap crowC)]
structure RdsCl (w:World) (v:Value) (rs:List CRow):Prop where
  row:RdsW w v 1 rs.length (rs.flatMap crowC)
  xs:∀r∈rs,RdsW w r.v 1 r.xs.length (r.xs.map (Value.int .i64))
theorem RdsCl.below {w w':World}{v:Value}{rs:List CRow}(h:RdsCl w v rs) (hb:Below w.heap.size w w'):RdsCl w' v rs:=⟨h.row.below hb,fun r hr=>(h.xs r hr).below hb⟩
theorem RdsCl.at {w:World}{v:Value}{rs:List CRow}(h:RdsCl w v rs) {k:Nat}(hk:k<rs.length):RdsW w (rs.getD k crow0).v 1 (rs.getD k crow0).xs.length ((rs.getD k crow0).xs.map (Value.int .i64)):=h.xs _ (dO hk)
theorem yZ {w0:World}{l:List HP}{v:Value}{rs:List CRow}(i:Nat) (hi:l[i]? = some (clE v rs)) (w:World) (hm:Mem w0 l w):RdsCl w v rs:=by
  obtain⟨b1, -⟩:=hm.holds _ (bX hi)
  have c1:=(b1 _ (List.mem_cons_self)).2
  have c2:=(b1 _ (List.mem_cons_of_mem _ List.mem_cons_self)).2
  exact⟨bT c2,fun r hr=>bT (c1.1 (cPart r) (List.mem_map.2 ⟨r,hr,rfl⟩)).2⟩
def LitOk (n:Int) (xs:List Int):Prop:=xs.length≤400∧∀i,i<xs.length→xs.getD i 0≠0∧-n≤xs.getD i 0∧xs.getD i 0≤n
structure ClOk (n:Int) (rs:List CRow):Prop where
  n0:0≤n
  n1:n≤400
  len:rs.length≤1600
  ok:∀k,k<rs.length→LitOk n (rs.getD k crow0).xs
def valI (ps:List Int) (l:Int):Int:=if l<0 then -(ps.getD (-l-1).toNat 0) else ps.getD (l-1).toNat 0
def PsOk (n:Int) (ps:List Int):Prop:=(ps.length:Int)=n∧∀i,i<ps.length→-1≤ps.getD i 0∧ps.getD i 0≤1
theorem tI {n:Int}{ps:List Int}(h:PsOk n ps) {l:Int}(h0:l≠0) (h1 : -n≤l) (h2:l≤n) : -1≤valI ps l∧valI ps l≤1:=by
  unfold valI
  have hl:=h.1
  split
  · have:=h.2 (-l-1).toNat (by omega);omega
  · exact h.2 (l-1).toNat (by omega)
def Full (n:Int) (fs:List Int):Prop:=PsOk n fs∧∀i,i<fs.length→fs.getD i 0≠0
def Agree (ps fs:List Int):Prop:=∀k,k<ps.length→ps.getD k 0≠0→ps.getD k 0=fs.getD k 0
def SatC (xs fs:List Int):Prop:=∃i,i<xs.length∧valI fs (xs.getD i 0)=1
def SatF (rs:List CRow) (fs:List Int):Prop:=∀k,k<rs.length→SatC (rs.getD k crow0).xs fs
theorem sE {n:Int}{ps fs:List Int}(hp:PsOk n ps) (ha:Agree ps fs) {l:Int}(h0:l≠0) (h1 : -n≤l) (h2:l≤n) (hv:valI ps l≠0):valI ps l=valI fs l:=by
  have hl:=hp.1
  unfold valI at *
  split at hv
  · rename_i hc
    rw[if_pos hc,if_pos hc,ha (-l-1).toNat (by omega) (by omega)]
  · rename_i hc
    rw[if_neg hc,if_neg hc,ha (l-1).toNat (by omega) hv]
structure UOk (xs ps:List Int) (u:Int) (cf:Bool):Prop where
  conf:cf=true→u=0∧∀i,i<xs.length→valI ps (xs.getD i 0) = -1
  unit:u≠0→cf=false∧valI ps u=0∧(∃i,i<xs.length∧xs.getD i 0=u)∧∀i,i<xs.length→xs.getD i 0=u∨valI ps (xs.getD i 0) = -1
  none:cf=false→u=0→∃i,i<xs.length∧valI ps (xs.getD i 0)≠-1
theorem UOk.rng {n:Int}{xs ps:List Int}{u:Int}{cf:Bool}(h:UOk xs ps u cf) (hx:LitOk n xs) (hu:u≠0) : -n≤u∧u≤n:=by
  obtain⟨-, -,⟨i,hi,rfl⟩, -⟩:=h.unit hu
  exact(hx.2 i hi).2
theorem zU {n:Int}{xs ps fs:List Int}{u:Int}(h:UOk xs ps u true) (hx:LitOk n xs) (hp:PsOk n ps) (ha:Agree ps fs) (hs:SatC xs fs):False:=by
  obtain⟨i,hi,h1⟩:=hs
  have h2:=(h.conf rfl).2 i hi
  have h3:=hx.2 i hi
  have:=sE hp ha h3.1 h3.2.1 h3.2.2 (by omega)
  omega
theorem sF {n:Int}{xs ps fs:List Int}{u:Int}{cf:Bool}(h:UOk xs ps u cf) (hu:u≠0) (hx:LitOk n xs) (hp:PsOk n ps) (ha:Agree ps fs) (hs:SatC xs fs):valI fs u=1:=by
  obtain⟨i,hi,h1⟩:=hs
  rcases(h.unit hu).2.2.2 i hi with h2|h2
  · rw[←h2];exact h1
  · have h3 := hx.2 i hi
    have:=sE hp ha h3.1 h3.2.1 h3.2.2 (by omega)
    omega
def zeros:List Int→Nat
  | []=>0
  | x::xs=>(if x=0 then 1 else 0)+zeros xs
theorem iN:∀(xs:List Int) (k:Nat) (x:Int),k<xs.length→xs.getD k 0=0→x≠0→zeros (xs.set k x)+1=zeros xs
  | [],k,x,h,_,_=>by simp at h
  | a::xs,0,x,_,h,hx=>by
    have:a=0:=by simpa using h
    subst this
    simp[zeros,hx];omega
  | a::xs,k+1,x,h,h0,hx=>by
    have:=iN xs k x (by simpa using h) (by simpa using h0) hx
    simp only[List.set_cons_succ,zeros];omega
structure PInv (n:Int) (rs:List CRow) (ps zs:List Int):Prop where
  ok:PsOk n zs
  len:zs.length=ps.length
  ext:∀k,k<ps.length→ps.getD k 0≠0→zs.getD k 0=ps.getD k 0
  agr:∀fs,Full n fs→SatF rs fs→Agree ps fs→Agree zs fs
  full:(∀k,k<ps.length→ps.getD k 0≠0)→zs=ps
theorem yD {n:Int}{rs:List CRow}{ps:List Int}(h:PsOk n ps):PInv n rs ps ps:=⟨h,rfl,fun _ _ _=>rfl,fun _ _ _ h=>h,fun _=>rfl⟩
theorem eO {α:Type}{es:List α}{i j:Nat}{d e:α}(h:j≠i):(es.set j e).getD i d=es.getD i d:=by
  rw[List.getD_eq_getElem?_getD,List.getElem?_set_ne h,←List.getD_eq_getElem?_getD]
theorem vS {n:Int}{rs:List CRow}{ps zs:List Int}{q j:Nat}{x:Int}(h:PInv n rs ps zs) (hj:j<zs.length) (hz:zs.getD j 0=0) (hx:x=1∨x = -1) (ht:∀fs,Full n fs→SatF rs fs→Agree zs fs→fs.getD j 0=x):PInv n rs ps (zs.set j x):=by
  refine⟨⟨by rw[List.length_set];exact h.ok.1,fun i hi=>?_⟩,by rw[List.length_set];exact h.len,fun k hk hp=>?_,fun fs hf hs ha k hk hne=>?_,fun hfull=>?_⟩
  · rw [List.length_set] at hi
    by_cases hij:i=j
    · subst hij;rw[eR hi];omega
    · rw[eO (fun e=>hij e.symm)];exact h.ok.2 i hi
  · have := h.ext k hk hp
    by_cases hkj:k=j
    · subst hkj;rw[hz] at this;exact absurd this.symm hp
    · rw[eO (fun e=>hkj e.symm)];exact this
  · rw [List.length_set] at hk
    have hA:=h.agr fs hf hs ha
    by_cases hkj:k=j
    · subst hkj;rw[eR hk];exact(ht fs hf hs hA).symm
    · rw[eO (fun e=>hkj e.symm)] at hne ⊢;exact hA k hk hne
  · have e := h.full hfull
    exfalso
    rw[e] at hz hj
    exact hfull j hj hz
theorem Db {n:Int}{rs:List CRow}{ps zs:List Int}{m:Nat}{u:Int}{cf:Bool}(hr:ClOk n rs) (h:PInv n rs ps zs) (hm:m<rs.length) (hu:UOk (rs.getD m crow0).xs zs u cf) (h0:0<u):PInv n rs ps (zs.set (u-1).toNat 1)∧zeros (zs.set (u-1).toNat 1)+1=zeros zs∧(u-1).toNat<zs.length:=by
  have hl:=hr.ok m hm
  have hur:=hu.rng hl (by omega)
  have hz:zs.getD (u-1).toNat 0=0:=by have:=(hu.unit (by omega)).2.1;unfold valI at this;rwa [if_neg (by omega)] at this
  have hlen:=h.ok.1
  refine⟨vS (q:=m) h (by omega) hz (.inl rfl) (fun fs hf hs ha=>?_),iN _ _ _ (by omega) hz (by decide),by omega⟩
  have:=sF hu (by omega) hl h.ok ha (hs m hm)
  unfold valI at this;rwa [if_neg (by omega)] at this
theorem Dc {n:Int}{rs:List CRow}{ps zs:List Int}{m:Nat}{u:Int}{cf:Bool}(hr:ClOk n rs) (h:PInv n rs ps zs) (hm:m<rs.length) (hu:UOk (rs.getD m crow0).xs zs u cf) (h0:u<0):PInv n rs ps (zs.set (-u-1).toNat (-1))∧zeros (zs.set (-u-1).toNat (-1))+1=zeros zs∧(-u-1).toNat<zs.length:=by
  have hl:=hr.ok m hm
  have hur:=hu.rng hl (by omega)
  have hz:zs.getD (-u-1).toNat 0=0:=by have:=(hu.unit (by omega)).2.1;unfold valI at this;rw[if_pos h0] at this;omega
  have hlen:=h.ok.1
  refine⟨vS (q:=m) h (by omega) hz (.inr rfl) (fun fs hf hs ha=>?_),iN _ _ _ (by omega) hz (by decide),by omega⟩
  have:=sF hu (by omega) hl h.ok ha (hs m hm)
  unfold valI at this;rw[if_pos h0] at this;omega
def Done (rs:List CRow) (ps:List Int) (m:Nat):Prop:=(∀k,k<ps.length→ps.getD k 0≠0)→∀q,q<m→SatC (rs.getD q crow0).xs ps
theorem Bx (rs:List CRow) (ps:List Int):Done rs ps 0:=fun _ q hq=>absurd hq (by omega)
theorem tA {n:Int}{rs:List CRow}{ps zs:List Int}{m:Nat}{u:Int}{cf:Bool}(hr:ClOk n rs) (h:PInv n rs ps zs) (hm:m<rs.length) (hu:UOk (rs.getD m crow0).xs zs u cf) (h0:u≠0):Done rs ps (m+1):=fun hf=>by
  exfalso
  have e:=h.full hf
  have hur:=hu.rng (hr.ok m hm) h0
  have hz:=(hu.unit h0).2.1
  have hl:=h.ok.1
  rw[e] at hz hl
  unfold valI at hz
  split at hz
  · exact hf (-u-1).toNat (by omega) (by omega)
  · exact hf (u-1).toNat (by omega) hz
theorem By {n:Int}{rs:List CRow}{ps zs:List Int}{m:Nat}(hr:ClOk n rs) (h:PInv n rs ps zs) (hm:m<rs.length) (hu:UOk (rs.getD m crow0).xs zs 0 false) (hd:Done rs ps m):Done rs ps (m+1):=fun hf q hq=>by
  by_cases hqm:q=m
  · subst hqm
    have e:=h.full hf
    obtain⟨i,hi,hv⟩:=hu.none rfl rfl
    have hl:=hr.ok q hm
    have h3:=hl.2 i hi
    have hok:=h.ok
    rw[e] at hv hok
    have hr2:=tI hok h3.1 h3.2.1 h3.2.2
    refine⟨i,hi,?_⟩
    have hne:valI ps ((rs.getD q crow0).xs.getD i 0)≠0:=by
      have hlen:=hok.1
      unfold valI
      split
      · have:=hf (-(rs.getD q crow0).xs.getD i 0-1).toNat (by omega);omega
      · exact hf ((rs.getD q crow0).xs.getD i 0-1).toNat (by omega)
    omega
  · exact hd hf q (by omega)
structure POk (n:Int) (rs:List CRow) (ps out:List Int) (ok:Bool):Prop where
  yes:∀fs,Full n fs→SatF rs fs→Agree ps fs→ok=true∧Agree out fs∧∀k,k<ps.length→ps.getD k 0≠0→out.getD k 0=ps.getD k 0
  full:(∀k,k<ps.length→ps.getD k 0≠0)→(ok=true↔SatF rs ps)
  len:ok=true→out.length=ps.length
theorem Da {n:Int}{rs:List CRow}{ps zs:List Int}{m:Nat}{u:Int}(hr:ClOk n rs) (h:PInv n rs ps zs) (hm:m<rs.length) (hu:UOk (rs.getD m crow0).xs zs u true):POk n rs ps [] false:=by
  refine⟨fun fs hf hs ha=>?_,fun hf=>⟨(fun h=>by cases h),fun hs=>?_⟩,(fun h=>by cases h)⟩
  · exact(zU hu (hr.ok m hm) h.ok (h.agr fs hf hs ha) (hs m hm)).elim
  · exfalso
    have e:=h.full hf
    have hok:=h.ok
    rw[e] at hu hok
    exact zU hu (hr.ok m hm) hok (fun _ _ _=>rfl) (hs m hm)
theorem Fh {n:Int}{rs:List CRow}{ps zs:List Int}(h:PInv n rs ps zs) (hd:Done rs ps rs.length):POk n rs ps zs true:=
  ⟨fun fs hf hs ha=>⟨rfl,h.agr fs hf hs ha,h.ext⟩,fun hf=>⟨fun _ k hk=>hd hf k hk,fun _=>rfl⟩,fun _=>h.len⟩
def litB (bs:List Bl) (l:Int):Bool:=if 0<l then (bs.getD (l-1).toNat bl0).b else !(bs.getD (-l-1).toNat bl0).b
def clB (bs:List Bl) (xs:List Int):Bool:=xs.any (litB bs)
def cnfB (bs:List Bl) (rs:List CRow):Bool:=rs.all (fun r=>clB bs r.xs)
def fullL (bs:List Bl):List Int:=bs.map (fun b=>if b.b=true then 1 else -1)
theorem pX (bs:List Bl) (i:Nat) (h:i<bs.length):(fullL bs).getD i 0=if (bs.getD i bl0).b=true then 1 else -1:=by
  unfold fullL
  rw[List.getD_eq_getElem?_getD,List.getElem?_map,List.getD_eq_getElem?_getD,List.getElem?_eq_getElem h];rfl
theorem Fz {n:Int}{bs:List Bl}(h:(bs.length:Int)=n):Full n (fullL bs):=by
  have hl:(fullL bs).length=bs.length:=by simp[fullL]
  refine⟨⟨by omega,fun i hi=>?_⟩,fun i hi=>?_⟩
  · rw[pX bs i (by omega)];split<;>omega
  · rw[pX bs i (by omega)];split<;>omega
theorem wR {n:Int}{bs:List Bl}(h:(bs.length:Int)=n) {l:Int}(h0:l≠0) (h1 : -n≤l) (h2:l≤n):valI (fullL bs) l=1↔litB bs l=true:=by
  unfold valI litB
  by_cases hl:l<0
  · rw [if_pos hl, if_neg (by omega), pX bs _ (by omega)]
    cases (bs.getD (-l-1).toNat bl0).b<;>simp
  · rw [if_neg hl, if_pos (by omega), pX bs _ (by omega)]
    cases (bs.getD (l-1).toNat bl0).b<;>simp
theorem wQ {n:Int}{bs:List Bl}{rs:List CRow}(h:(bs.length:Int)=n) (hr:ClOk n rs):SatF rs (fullL bs)↔cnfB bs rs=true:=by
  unfold SatF SatC cnfB clB
  simp only[List.all_eq_true,List.any_eq_true]
  constructor
  · intro hs r hr2
    obtain⟨k,hk,rfl⟩:=List.mem_iff_getElem.1 hr2
    obtain⟨i,hi,hv⟩:=hs k hk
    have hl:=(hr.ok k hk).2 i hi
    rw[wR h hl.1 hl.2.1 hl.2.2] at hv
    rw[show rs.getD k crow0=rs[k] by rw[List.getD_eq_getElem?_getD,List.getElem?_eq_getElem hk];rfl] at hi hv
    exact⟨_,dO hi,hv⟩
  · intro hs k hk
    have hmem:rs.getD k crow0∈rs:=dO hk
    obtain⟨x,hx,hv⟩:=hs _ hmem
    obtain⟨i,hi,rfl⟩:=List.mem_iff_getElem.1 hx
    have hl:=(hr.ok k hk).2 i hi
    have e:(rs.getD k crow0).xs.getD i 0=(rs.getD k crow0).xs[i]:=by rw[List.getD_eq_getElem?_getD,List.getElem?_eq_getElem hi];rfl
    refine⟨i,hi,?_⟩
    rw[wR h hl.1 hl.2.1 hl.2.2,e];exact hv
theorem aX {ps:List HP}{p:HP}{w:World}(h:(bigE ps).holds w) (hp:p∈ps):p.holds w:=(h.1 p hp).2
theorem oX {w0:World}{l:List HP}(ps:List HP) (l':List HP) (h:l=ps++l'):Conv w0 l (bigE ps::l'):=fun w hm=>(h▸hm).big
theorem eW {w0:World}{l:List HP}:Conv w0 l (bigE []::l):=fun w hm=>Mem.big (ps:=[]) hm
theorem iV {P:Program}{N:Nat}{w0:World}{l:List HP}{env:List (Nat×Value)}{o:Oper}{t e:TypeId}{x:Operand}{v:Value}(ho:o.op=.buildSlice t 1 #[(0,x)]) (hu:P.underlying t=some (.slice e)) (hi:(P.info? e).map (fun i=>(i.zero,i.size))=some (some (.slice none 0 0),1)) (hx:ev env x=some v) (h1:∀w,Mem w0 l w→v.oneCell'=true) :
    RunQ P N w0 l env o (IsRow e 1 1 [v]):=fun a w st=>fH ho hu hi hx (h1 w st.mem) a w st
def RdsAll (w:World) (rs:List CRow):Prop:=∀r∈rs,RdsW w r.v 1 r.xs.length (r.xs.map (Value.int .i64))
theorem RdsAll.nil (w:World):RdsAll w []:=fun r hr=>by cases hr
theorem RdsAll.at {w:World}{rs:List CRow}(h:RdsAll w rs) {k:Nat}(hk:k<rs.length):RdsW w (rs.getD k crow0).v 1 (rs.getD k crow0).xs.length ((rs.getD k crow0).xs.map (Value.int .i64)):=h _ (dO hk)
theorem RdsAll.sub {w:World}{rs qs:List CRow}(h:RdsAll w rs) (hs:∀q∈qs,q∈rs):RdsAll w qs:=fun q hq=>h q (hs q hq)
theorem RdsAll.cons {w:World}{rs qs:List CRow}{u:CRow}(h:RdsAll w rs) (hu:RdsW w u.v 1 u.xs.length (u.xs.map (Value.int .i64))) (hs:∀q∈qs,q=u∨q∈rs):RdsAll w qs:=fun q hq=>by
  rcases hs q hq with rfl|hq
  · exact hu
  · exact h q hq
theorem RdsW.one' {w:World}{v:Value}{s n:Nat}{cs:List Value}(h:RdsW w v s n cs):v.oneCell'=true:=by
  obtain⟨a,cap,rfl, -⟩:=h;rfl
section
variable {P:Program}{N:Nat}{w0:World}{l l':List HP}{env:List (Nat×Value)}{Q:Post}{ops:Array Oper}{rest:List Oper}{o:Oper}{d:Nat}
theorem cY {p:Prop}{e:Exit}(h:∀w,Mem w0 l w→p) (k:p→HQ N w0 l env e Q):HQ N w0 l env e Q:=fun a w st=>k (h w st.mem) a w st
end
def getL {α:Type}:List α→Nat→Option α
  | x::_,0=>some x
  | _::xs,k+1=>getL xs k
  | [],_=>none
def dropL {α:Type}:Nat→List α→Option (List α)
  | 0,l=>some l
  | k+1,_::l=>dropL k l
  | _+1,[]=>none
def pickL {α : Type} (l : List α) : List Nat → List α → Option (List α)
  | [],acc=>some acc
  | k::ks,acc=>match getL l k with
    | some p=>pickL l ks (p::acc)
    | none=>none
def setLP {α : Type} : List α → Nat → α → Option (List α)
  | _::xs,0,p=>some (p::xs)
  | x::xs,k+1,p=>match setLP xs k p with
    | some r=>some (x::r)
    | none=>none
  | [],_,_=>none
def takeL {α : Type} : Nat → List α → Option (List α × List α)
  | 0,l=>some ([],l)
  | k+1,x::l=>match takeL k l with
    | some (a,b)=>some (x::a,b)
    | none=>none
  | _+1,[]=>none
theorem Ae {α:Type}:∀(l:List α) (k:Nat),getL l k=l[k]?
  | [],k=>by simp[getL]
  | x::xs,0=>by simp[getL]
  | x::xs,k+1=>by simp only[getL,List.getElem?_cons_succ];exact Ae xs k
theorem rD {α:Type}:∀(m:Nat) {l t:List α},dropL m l=some t→∃a,l=a++t∧a.length=m
  | 0,l,t,h=>by simp only[dropL,Option.some.injEq] at h;exact⟨[],by simp[h],rfl⟩
  | k+1,[],t,h=>by simp[dropL] at h
  | k+1,x::l,t,h=>by
    simp only[dropL] at h
    obtain⟨a,e,hl⟩:=rD k h
    exact⟨x::a,by rw[e];rfl,by simp[hl]⟩
theorem vT {α:Type}{l:List α}:∀(ks:List Nat) {acc l':List α},pickL l ks acc=some l'→∃ds,l'=ds++acc∧ks.reverse.map (fun k=>l[k]?)=ds.map some
  | [],acc,l',h=>by simp only[pickL,Option.some.injEq] at h;exact⟨[],by simp[h],rfl⟩
  | k::ks,acc,l',h=>by
    simp only[pickL] at h
    rw[Ae] at h
    split at h
    · rename_i p hp
      obtain⟨ds,e,hd⟩:=vT ks h
      exact⟨ds++[p],by rw[e];simp,by rw[List.reverse_cons,List.map_append,List.map_append,hd];simp[hp]⟩
    · cases h
theorem lJ {α:Type}:∀ {l:List α}{i:Nat}{p:α}{l':List α},setLP l i p=some l'→l.set i p=l'
  | [],i,p,l',h=>by simp[setLP] at h
  | x::xs,0,p,l',h=>by simp only[setLP,Option.some.injEq] at h;rw[←h];rfl
  | x::xs,k+1,p,l',h=>by
    simp only[setLP] at h
    split at h
    · rename_i r hr
      simp only[Option.some.injEq] at h
      rw[←h,List.set_cons_succ,lJ hr]
    · cases h
theorem nJ {α:Type}:∀(m:Nat) {l a b:List α},takeL m l=some (a,b)→l=a++b
  | 0,l,a,b,h=>by simp only[takeL,Option.some.injEq,Prod.mk.injEq] at h;rw[←h.1,←h.2];rfl
  | k+1,[],a,b,h=>by simp[takeL] at h
  | k+1,x::l,a,b,h=>by
    simp only[takeL] at h
    split at h
    · rename_i a' b' hr
      simp only[Option.some.injEq,Prod.mk.injEq] at h
      rw[←h.1,←h.2,nJ k hr];rfl
    · cases h
theorem uU {w0:World}{l l' t:List HP}(m:Nat) (ks:List Nat) (hd:dropL m l=some t) (h:pickL l ks t=some l') (hn:ks.reverse.Nodup∧∀k∈ks.reverse,k<m):Conv w0 l l':=by
  obtain⟨a,rfl,hm⟩:=rD m hd
  obtain⟨ds,rfl,hds⟩:=vT ks h
  refine Ca (src:=a) (dst:=ds) (l:=t) ks.reverse hn.1 ?_
  rw[←hds]
  refine List.map_congr_left fun k hk=>?_
  have:=hn.2 k hk
  exact(List.getElem?_append_left (by omega)).symm
section
variable {P:Program}{N:Nat}{w0:World}{l l' t ps:List HP}{env env':List (Nat×Value)}{Q:Post}{o:Oper}{ops:Array Oper}{rest:List Oper}{d:Nat}
theorem aZ {e:Exit}(m:Nat) (ks:List Nat) (hd:dropL m l=some t) (h:pickL l ks t=some l') (hn:ks.reverse.Nodup∧∀k∈ks.reverse,k<m) (k:HQ N w0 l' env e Q):HQ N w0 l env e Q:=cZ l' (uU m ks hd h hn) k
theorem eE {c:Code}(m:Nat) (ks:List Nat) (hd:dropL m l=some t) (h:pickL l ks t=some l') (hn:ks.reverse.Nodup∧∀k∈ks.reverse,k<m) (k:HC P N w0 l' env c Q):HC P N w0 l env c Q:=fE l' (uU m ks hd h hn) k
theorem iR (m:Nat) (ks:List Nat) (hd:dropL m l=some t) (h:pickL l ks t=some l') (hn:ks.reverse.Nodup∧∀k∈ks.reverse,k<m) (k:HL P N ops w0 l' env rest Q):HL P N ops w0 l env rest Q:=jE l' (uU m ks hd h hn) k
theorem cB {e:Exit}(m:Nat) (h:takeL m l=some (ps,t)) (k:HQ N w0 (bigE ps::t) env e Q):HQ N w0 l env e Q:=cZ _ (oX ps t (nJ m h)) k
theorem uK {c:Code}(m:Nat) (h:takeL m l=some (ps,t)) (k:HC P N w0 (bigE ps::t) env c Q):HC P N w0 l env c Q:=fE _ (oX ps t (nJ m h)) k
theorem pV (m:Nat) (h:takeL m l=some (ps,t)) (k:HL P N ops w0 (bigE ps::t) env rest Q):HL P N ops w0 l env rest Q:=jE _ (oX ps t (nJ m h)) k
theorem bU {R:Value→List HP→Prop}(hs:sub env' env) (hl:l=l') (h:RunQ P N w0 l' env' o R):RunQ P N w0 l env o R:=by subst hl;exact bH hs h
theorem cE (hs:sub env' env) (hl:l=l') (h:HL P N ops w0 l' env' rest Q):HL P N ops w0 l env rest Q:=by subst hl;exact nZ hs (.refl _) h
theorem cV {C X X':List HP}{R:Value→List HP→Prop}(hs:sub env' env) (hl:X=X') (h:RunM P N w0 C X' env' o R):RunM P N w0 C X env o R:=by subst hl;exact Fc hs (.refl _) h
theorem cW {t e s bytes n m i:Nat}{x y:Operand}{v u z:Value}{xs news:List Value}(hd:o.dst=some d) (hN:Nat.blt d N=true) (hw:want ops env o.guard=some true) (ho:o.op=.call { callee:=.builtin .append,args:=#[x,y],argTypes:=#[t,t] })
    (hu:P.underlying t=some (.slice e)) (hinf:(P.info? e).map (fun i=>(i.zero,i.size,i.bytes))=some (some z,s,bytes)) (hzs:(Nat.beq z.cells.size s&&Nat.blt 0 s&&Nat.ble bytes 1000)=true)
    (hx:ev env x=some v) (hy:ev env y=some u) (hi:l[i]? = some (rowE e s v n xs)) (hr:Rd w0 l u s m news) (h1:∀q∈news,q.oneCell'=true) (hnm:n+m≤100000000000)
    {n':Nat}{xs':List Value}(hn':n+m=n') (hx':xs++news=xs') {L:Value→List HP}(hL:∀v',setLP l i (rowE e s v' n' xs')=some (L v'))
    (k:∀v',HL P N ops w0 (L v') ((d,v')::env) rest Q):HL P N ops w0 l env (o::rest) Q:=Bp hd hN hw ho hu hinf hzs hx hy hi hr h1 hnm hn' hx' (fun v'=>lJ (hL v')) k
theorem eN {t i e size n j:Nat}{x y:Operand}{xs:List Value}{v u:Value}(hd:o.dst=none) (hw:want ops env o.guard=some true) (ho:o.op=.store t x y) (hs:(P.info? t).map (·.size)=some 1)
    (hx:ev env x=some (elP v j)) (hy:ev env y=some u) (h1:u.oneCell'=true) (hi:l[i]? = some (rowE e size v n xs)) (hlt:j<n*size)
    {n':Nat}{xs':List Value}(hn':n=n') (hx':xs.set j u=xs') (hl':setLP l i (rowE e size v n' xs')=some l') (k:HL P N ops w0 l' env rest Q):HL P N ops w0 l env (o::rest) Q:=yU hd hw ho hs hx hy h1 hi hlt hn' hx' (lJ hl') k
theorem fI {t b off i:Nat}{x y:Operand}{cs cs':Array Value}{tb:TypeId}{v:Value}(hd:o.dst=none) (hw:want ops env o.guard=some true) (ho:o.op=.store t x y) (hs:(P.info? t).map (·.size)=some 1)
    (hx:ev env x=some (.pointer (some ⟨b,off,none⟩))) (hy:ev env y=some v) (h1:v.oneCell'=true) (hi:l[i]? = some (boxE b cs tb)) (hlt:Nat.blt off cs.size=true) (hcs:cs.setIfInBounds off v=cs')
    (hl':setLP l i (boxE b cs' tb)=some l') (k:HL P N ops w0 l' env rest Q):HL P N ops w0 l env (o::rest) Q:=wL hd hw ho hs hx hy h1 hi hlt (by rw[hcs];exact lJ hl') k
theorem bI {t b off i:Nat}{x y:Operand}{cs cs':Array Value}{tb:TypeId}{us:List Value}(hd:o.dst=none) (hw:want ops env o.guard=some true) (ho:o.op=.store t x y) (hs:(P.info? t).map (·.size)=some us.length)
    (hx:ev env x=some (.pointer (some ⟨b,off,none⟩))) (hy:ev env y=some (.agg us.toArray)) (hi:l[i]? = some (boxE b cs tb)) (h1:∀u∈us,u.oneCell'=true) (hlt:Nat.ble (off+us.length) cs.size=true) (hcs:putN cs off us=cs')
    (hl':setLP l i (boxE b cs' tb)=some l') (k:HL P N ops w0 l' env rest Q):HL P N ops w0 l env (o::rest) Q:=uJ hd hw ho hs hx hy hi h1 hlt hcs (lJ hl') k
end
theorem lT {w0:World}{l:List HP}:Conv w0 l (bigE []::l):=fun w hm=>Mem.big (ps:=[]) hm
theorem fS:(∀(f:Nat→List HP) (a:Nat) (al:List Nat),(a::al).flatMap f=f a++al.flatMap f)∧(∀f:Nat→List HP,([]:List Nat).flatMap f=[])∧(∀xs:List HP,xs++[]=xs)∧(∀xs:List HP,[]++xs=xs)∧(∀(x:HP) (xs ys:List HP),(x::xs)++ys=x::(xs++ys)):=⟨by simp,by simp,by simp,by simp,by simp⟩
def skL {α : Type} : List α → List Nat → Option (List α)
  | _,[]=>some []
  | l,g::gs=>match dropL g l with
    | some (x::t)=>match skL t gs with
      | some r=>some (x::r)
      | none=>none
    | _=>none
theorem Cp {α : Type} : ∀ (gs : List Nat) {l l' : List α}, skL l gs = some l' → l'.Sublist l
  | [],l,l',h=>by simp only[skL,Option.some.injEq] at h;subst h;exact List.nil_sublist _
  | g::gs,l,l',h=>by
    simp only[skL] at h
    split at h
    · rename_i x t hd
      split at h
      · rename_i r hr
        simp only[Option.some.injEq] at h
        subst h
        obtain⟨a,e,_⟩:=rD g hd
        rw[e]
        exact((Cp gs hr).cons_cons x).trans (List.sublist_append_right a _)
      · cases h
    · cases h
theorem eJ {α:Type}{l l':List α}(gs:List Nat) (h:skL l gs=some l'):l'.Sublist l:=Cp gs h
theorem dS {α:Type}{l l' t:List α}(h:l'++t=l):l'.Sublist l:=h▸List.sublist_append_left l' t
def pickO (env : List (Nat × Value)) : List (Nat × Value) → Option (List (Nat × Value))
  | []=>some []
  | (k,_)::t=>match lk env k with
    | some v=>match pickO env t with
      | some r=>some ((k,v)::r)
      | none=>none
    | none=>none
theorem sN {env : List (Nat × Value)} : ∀ (t : List (Nat × Value)) {r : List (Nat × Value)}, pickO env t = some r → sub r env
  | [],r,h=>by simp only[pickO,Option.some.injEq] at h;subst h;exact aB _
  | (k,u)::t,r,h=>by
    simp only[pickO] at h
    split at h
    · rename_i v hv
      split at h
      · rename_i r' hr
        simp only[Option.some.injEq] at h
        subst h
        exact sub_cons hv (sN t hr)
      · cases h
    · cases h
theorem cT {env env':List (Nat×Value)}(h:pickO env env'=some env'):sub env' env:=sN env' h
theorem pN {e1 e2 env:List (Nat×Value)}(h1:sub e1 env) (h2:sub e2 env):sub (e1++e2) env:=fun p hp=>(List.mem_append.1 hp).elim (h1 p) (h2 p)
section
variable {P:Program}{N:Nat}{w0:World}{l l':List HP}{env env' ec:List (Nat×Value)}{Q:Post}{o:Oper}{ops:Array Oper}{os rest:List Oper}{d:Nat}
def hdr (ops:Array Oper) (N:Nat) (env:List (Nat×Value)) (o:Oper):Option Nat:=match o.dst with
  | none=>none
  | some d=>bif Nat.blt d N then (match want ops env o.guard with
    | some true=>some d
    | _=>none) else none
theorem iY (h:hdr ops N env o=some d):o.dst=some d∧Nat.blt d N=true∧want ops env o.guard=some true:=by
  unfold hdr at h
  split at h
  · cases h
  · rename_i d' hd
    cases hN:Nat.blt d' N with
    | false=>rw[hN] at h;cases h
    | true=>
      rw[hN] at h;simp only[cond_true] at h
      split at h
      · rename_i hw;cases h;exact⟨hd,hN,hw⟩
      · cases h
theorem aP {v:Value}(h:hdr ops N env o=some d) (r:RunV P N w0 l env o v) (k:HL P N ops w0 l ((d,v)::env) rest Q):HL P N ops w0 l env (o::rest) Q:=mK (iY h).1 (iY h).2.1 (iY h).2.2 r k
theorem dA {v:Value}(h:hdr ops N env o=some d) (r:RunQ P N w0 l env o (fun v' post=>v'=v∧post=[])) (k:HL P N ops w0 l ((d,v)::env) rest Q):HL P N ops w0 l env (o::rest) Q:=Du (iY h).1 (iY h).2.1 (iY h).2.2 r k
theorem dP {e s n:Nat}{cs:List Value}(h:hdr ops N env o=some d) (r:RunQ P N w0 l env o (IsRow e s n cs)) (k:∀b,HL P N ops w0 (rowE e s (.slice (some ⟨b,0,none⟩) n n) n cs::l) ((d,.slice (some ⟨b,0,none⟩) n n)::env) rest Q):HL P N ops w0 l env (o::rest) Q:=hl_row (iY h).1 (iY h).2.1 (iY h).2.2 r k
theorem cR {cs:Array Value}{t:TypeId}(h:hdr ops N env o=some d) (r:RunQ P N w0 l env o (IsBox cs t)) (k:∀b,HL P N ops w0 (boxE b cs t::l) ((d,.pointer (some ⟨b,0,none⟩))::env) rest Q):HL P N ops w0 l env (o::rest) Q:=hl_box (iY h).1 (iY h).2.1 (iY h).2.2 r k
def idxS (P:Program) (t s:Nat):Bool:=match P.underlying t with
  | some (.slice e)=>match P.info? e with
    | some i=>Nat.beq i.size s
    | none=>false
  | _=>false
theorem Fs {t s:Nat}(h:idxS P t s=true):∃e,P.underlying t=some (.slice e)∧(P.info? e).map (·.size)=some s:=by
  unfold idxS at h
  split at h
  · rename_i e he
    split at h
    · rename_i i hi
      exact⟨e,he,by rw[hi,Option.map_some,Nat.eq_of_beq_eq_true h]⟩
    · cases h
  · cases h
theorem dF {t n:Nat}{cs:List Value}{v:Value}{x i:Operand}{m:Int}{kk:IntKind}(s:Nat) (ho:o.op=.indexAddr t x i) (hs:idxS P t s=true) (hx:ev env x=some v) (hi:ev env i=some (.int kk m)) (hr:Rd w0 l v s n cs) (h0:0≤m:=by omega) (h1:m<n:=by omega):RunV P N w0 l env o (elP v (m.toNat*s)):=by
  obtain⟨e,h2,h3⟩:=Fs hs
  exact Ct ho h2 h3 hx hi hr h0 h1
theorem rR {t n:Nat}{x:Operand}{v:Value}{xs:List Int}{m:Int}(ho:o.op=.load t x) (ha:aggB P t=some false) (hx:ev env x=some (elP v (m.toNat*1))) (hr:Rd w0 l v 1 n (xs.map (Value.int .i64))) (h:m.toNat<xs.length:=by omega):RunV P N w0 l env o (.int .i64 (xs.getD m.toNat 0)):=bG ho ha hx hr (eS h)
theorem hC {t n m:Nat}{x:Operand}{v:Value}{xs:List Int}(ho:o.op=.load t x) (ha:aggB P t=some false) (hx:ev env x=some (elP v ((m:Int).toNat*1))) (hr:Rd w0 l v 1 n (xs.map (Value.int .i64))) (h:m<xs.length:=by omega):RunV P N w0 l env o (.int .i64 (xs.getD m 0)):=bG ho ha hx hr (eS (m:=(m:Int)) h)
theorem cQ {t:TypeId}{x:Operand}{f b off:Nat}(k0:Nat) (ho:o.op=.fieldAddr t x f) (hf:fieldOff P t f=some k0) (hx:ev env x=some (.pointer (some ⟨b,off,none⟩))):RunV P N w0 l env o (.pointer (some ⟨b,off+k0,none⟩)):=Cu ho hf hx
theorem dM {t t':TypeId}{x y:Operand}{m n:Int}(ho:o.op=.binOp .add t x y t') (hx:ev env x=some (.int .i64 m)) (hy:ev env y=some (.int .i64 n)) (hr : -9223372036854775808≤m+n∧m+n≤9223372036854775807:=by constructor<;>omega):RunV P N w0 l env o (.int .i64 (m+n)):=oI ho hx hy hr
theorem iM {t t':TypeId}{x y:Operand}{m n:Int}(ho:o.op=.binOp .sub t x y t') (hx:ev env x=some (.int .i64 m)) (hy:ev env y=some (.int .i64 n)) (hr : -9223372036854775808≤m-n∧m-n≤9223372036854775807:=by constructor<;>omega):RunV P N w0 l env o (.int .i64 (m-n)):=rv_sub ho hx hy hr
theorem bR {y:Code}(h:HC P N w0 l env y Q):HL P N ops w0 l env [] (Exit.then (y.wp P Q) Q):=dB (bF h)
theorem dJ (k:Nat) (h:evRun ops N k os env=some (env',[])) (H:HQ N w0 l env' .normal Q):HL P N ops w0 l env os Q:=aM k h (dB H)
theorem aU (k:Nat) {y:Code}(h:evRun ops N k os env=some (env',[])) (H:HC P N w0 l env' y Q):HL P N ops w0 l env os (Exit.then (y.wp P Q) Q):=aM k h (bR H)
theorem cF {i:Nat}{y:Code}(h:HL P N os.toArray w0 l env os (Exit.then (y.wp P Q) Q)):HC P N w0 l env (.seq (.region i os.toArray false) y) Q:=aC (bJ h)
theorem eP {i:Nat}{y z:Code}(h:HL P N os.toArray w0 l env os (Exit.then (y.wp P (Exit.then (z.wp P Q) Q)) (Exit.then (z.wp P Q) Q))):HC P N w0 l env (.seq (.seq (.region i os.toArray false) y) z) Q:=aC (cF h)
theorem bZ {i:Nat}(k:Nat) (h:evRun os.toArray N k os env=some (env',rest)) (H:HL P N os.toArray w0 l env' rest Q):HC P N w0 l env (.region i os.toArray false) Q:=bJ (aM k h H)
theorem bD {i:Nat}{y:Code}(k:Nat) (h:evRun os.toArray N k os env=some (env',[])) (H:HC P N w0 l env' y Q):HC P N w0 l env (.seq (.region i os.toArray false) y) Q:=cF (aU k h H)
theorem nF {c:Operand}{x y z:Code}(hc:ev env c=some (.bool true)) (h:HC P N w0 l env x (Exit.then (z.wp P Q) Q)):HC P N w0 l env (.seq (.cond c x y) z) Q:=aC (aR hc h)
theorem nG {c:Operand}{x y z:Code}(hc:ev env c=some (.bool false)) (h:HC P N w0 l env y (Exit.then (z.wp P Q) Q)):HC P N w0 l env (.seq (.cond c x y) z) Q:=aC (aS hc h)
theorem hH {c:Operand}{x:Code}(hc:ev env c=some (.bool false)) (h:HQ N w0 l env .normal Q):HC P N w0 l env (.cond c x .skip) Q:=aS hc (fP h)
theorem bY {y:Code}(h:HC P N w0 l env y Q):HC P N w0 l env .skip (Exit.then (y.wp P Q) Q):=fP (bF h)
theorem cK {i:Nat}{y:Code}(h:HC P N w0 l env y Q):HQ N w0 l env .normal (Exit.inBlock i (Exit.then (y.wp P Q) Q)):=cX (bF h)
theorem fM {i:Nat}{c y:Code}(h:HC P N w0 l env c (Exit.inBlock i (Exit.then (y.wp P Q) Q))):HC P N w0 l env (.seq (.block i c) y) Q:=aC (bE h)
theorem dI {i:Nat}{K K':Act→World→Prop}{Q:Post}(h:HQ N w0 l env (.exit i) Q):HQ N w0 l env (.exit i) (Exit.then K (Exit.then K' Q)):=h
theorem fL {K K':Act→World→Prop}{Q:Post}(h:HQ N w0 l env .ret Q):HQ N w0 l env .ret (Exit.then K (Exit.then K' Q)):=h
theorem bK {v u:Value}(hw:want ops env o.guard=some true) (h:RunV P N w0 l env o v) (e:v=u):ObV P ops N w0 l env o u:=.inl ⟨hw,rq_vE h e⟩
theorem fG {R:Value→List HP→Prop}{dsts:List Nat}{vf:Nat→Value}{pf:Nat→List HP}(qs is:List Nat) (hw:want ops (envOf dsts vf is++env) o.guard=some true) (h:RunQ P N w0 (qs.flatMap pf++l) (envOf dsts vf is++env) o R):Obl P ops N w0 (qs.flatMap pf++l) (envOf dsts vf is++env) o R:=.inl ⟨hw,h⟩
theorem bL {R:Value→List HP→Prop}{dsts:List (Option Nat)}{vf:Nat→Value}{pf:Nat→List HP}(qs is:List Nat) (hw:want ops (envOf3 dsts vf is++env) o.guard=some true) (h:RunQ P N w0 (qs.flatMap pf++l) (envOf3 dsts vf is++env) o R):Obl P ops N w0 (qs.flatMap pf++l) (envOf3 dsts vf is++env) o R:=.inl ⟨hw,h⟩
theorem fX {R:Value→List HP→Prop}(hw:want ops env o.guard=some true) (hs:sub env' env) (h:RunQ P N w0 l env' o R):Obl P ops N w0 l env o R:=.inl ⟨hw,aW hs (.refl _) h⟩
theorem eZ {X:List HP}{R:Value→List HP→Prop}(hw:want ops env o.guard=some true) (hs:sub env' env) (h:RunQ P N w0 l env' o R):Obl P ops N w0 (X++l) env o R:=.inl ⟨hw,aW hs (List.sublist_append_right _ _) h⟩
theorem hO {α:Type}{c:Code}(ks:List Nat) (hk:pickE env ks []=some ec) (L:α→List HP) (E:α→List (Nat×Value)) (G:α→Prop) (m:α→Nat) (x0:α) (hG:G x0) (hs:sub (E x0) env) (hl:(L x0).Sublist l)
    (round:∀x,G x→HC P N w0 (L x) (E x++ec) c (Exit.then (fun a' w'=>∃x',G x'∧m x'<m x∧St N w0 (L x') (E x'++ec) a' w') Q)):HC P N w0 l env (.loop c) Q:=wO L (fun x=>E x++ec) G m x0 hG (pN hs (aI ks hk)) hl round
theorem gT {α β:Type}{c:Code}(ks:List Nat) (hk:pickE env ks []=some ec) (L:α→β→List HP) (E:α→β→List (Nat×Value)) (G:α→β→Prop) (m:α→β→Nat) (x0:α) (y0:β) (hG:G x0 y0) (hs:sub (E x0 y0) env) (hl:(L x0 y0).Sublist l)
    (round:∀x y,G x y→HC P N w0 (L x y) (E x y++ec) c (Exit.then (fun a' w'=>∃x' y',G x' y'∧m x' y'<m x y∧St N w0 (L x' y') (E x' y'++ec) a' w') Q)):HC P N w0 l env (.loop c) Q:=wN L (fun x y=>E x y++ec) G m x0 y0 hG (pN hs (aI ks hk)) hl round
theorem iC {α β γ:Type}{c:Code}(ks:List Nat) (hk:pickE env ks []=some ec) (L:α→β→γ→List HP) (E:α→β→γ→List (Nat×Value)) (G:α→β→γ→Prop) (m:α→β→γ→Nat) (x0:α) (y0:β) (z0:γ) (hG:G x0 y0 z0) (hs:sub (E x0 y0 z0) env) (hl:(L x0 y0 z0).Sublist l)
    (round:∀x y z,G x y z→HC P N w0 (L x y z) (E x y z++ec) c (Exit.then (fun a' w'=>∃x' y' z',G x' y' z'∧m x' y' z'<m x y z∧St N w0 (L x' y' z') (E x' y' z'++ec) a' w') Q)):HC P N w0 l env (.loop c) Q:=qZ L (fun x y z=>E x y z++ec) G m x0 y0 z0 hG (pN hs (aI ks hk)) hl round
theorem oP {α β γ δ:Type}{c:Code}(ks:List Nat) (hk:pickE env ks []=some ec) (L:α→β→γ→δ→List HP) (E:α→β→γ→δ→List (Nat×Value)) (G:α→β→γ→δ→Prop) (m:α→β→γ→δ→Nat) (x0:α) (y0:β) (z0:γ) (u0:δ) (hG:G x0 y0 z0 u0) (hs:sub (E x0 y0 z0 u0) env) (hl:(L x0 y0 z0 u0).Sublist l)
    (round:∀x y z u,G x y z u→HC P N w0 (L x y z u) (E x y z u++ec) c (Exit.then (fun a' w'=>∃x' y' z' u',G x' y' z' u'∧m x' y' z' u'<m x y z u∧St N w0 (L x' y' z' u') (E x' y' z' u'++ec) a' w') Q)):HC P N w0 l env (.loop c) Q:=wM L (fun x y z u=>E x y z u++ec) G m x0 y0 z0 u0 hG (pN hs (aI ks hk)) hl round
end
namespace Bit
open Go
theorem i64_small (n:Nat) (h:n<4294967296):IntKind.i64.wrap (n:Int)=n:=by
  rw[IntKind.wrap_i64];omega
theorem ofInt_small (a:Nat) (h:a<4294967296):(BitVec.ofInt 64 (a:Int)).toNat=a:=by
  rw[BitVec.ofInt_natCast,BitVec.toNat_ofNat];omega
theorem and_nat (a b:Nat) (ha:a<4294967296) (hb:b<4294967296):bits .and .i64 (a:Int) (b:Int)=((a&&& b:Nat):Int):=by
  have hx:a&&& b<2 ^ 32:=Nat.and_lt_two_pow _ (by omega)
  show IntKind.i64.wrap ((BitVec.ofInt 64 (a:Int)&&& BitVec.ofInt 64 (b:Int)).toNat:Int)=_
  rw[BitVec.toNat_and,ofInt_small a ha,ofInt_small b hb,i64_small _ (by omega)]
theorem or_nat (a b:Nat) (ha:a<4294967296) (hb:b<4294967296):bits .or .i64 (a:Int) (b:Int)=((a||| b:Nat):Int):=by
  have hx:a||| b<2 ^ 32:=Nat.or_lt_two_pow (by omega) (by omega)
  show IntKind.i64.wrap ((BitVec.ofInt 64 (a:Int)||| BitVec.ofInt 64 (b:Int)).toNat:Int)=_
  rw[BitVec.toNat_or,ofInt_small a ha,ofInt_small b hb,i64_small _ (by omega)]
theorem xor_nat (a b:Nat) (ha:a<4294967296) (hb:b<4294967296):bits .xor .i64 (a:Int) (b:Int)=((a ^^^ b:Nat):Int):=by
  have hx:a ^^^ b<2 ^ 32:=Nat.xor_lt_two_pow (by omega) (by omega)
  show IntKind.i64.wrap ((BitVec.ofInt 64 (a:Int) ^^^ BitVec.ofInt 64 (b:Int)).toNat:Int)=_
  rw[BitVec.toNat_xor,ofInt_small a ha,ofInt_small b hb,i64_small _ (by omega)]
theorem xor_int (a b:Int) (h1:0≤a) (h2:a<4294967296) (h3:0≤b) (h4:b<4294967296):bits .xor .i64 a b=((a.toNat ^^^ b.toNat:Nat):Int):=by
  obtain⟨x,rfl⟩:=Int.eq_ofNat_of_zero_le h1
  obtain⟨y,rfl⟩:=Int.eq_ofNat_of_zero_le h3
  exact xor_nat x y (by omega) (by omega)
theorem and_one (x:Int) (h1:0≤x) (h2:x<4294967296):bits .and .i64 x 1=x % 2:=by
  obtain⟨a,rfl⟩:=Int.eq_ofNat_of_zero_le h1
  have:=and_nat a 1 (by omega) (by omega)
  rw[Nat.and_one_is_mod] at this
  exact this
theorem bit_xor (x y k:Nat):(x ^^^ y) / 2 ^ k % 2=(x / 2 ^ k % 2) ^^^ (y / 2 ^ k % 2):=by
  have:=Nat.testBit_xor x y k
  rw[←Nat.toNat_testBit,←Nat.toNat_testBit,←Nat.toNat_testBit,this]
  cases x.testBit k<;>cases y.testBit k<;>rfl
theorem or_join (x b k:Nat) (hx:x<2 ^ k):x||| b*2 ^ k=x+b*2 ^ k:=by
  rw[Nat.or_comm,nat_join k (b*2 ^ k) x (by simp) hx,Nat.add_comm]
end Bit
section
variable {P:Program}{N:Nat}{w0:World}{l:List HP}{env:List (Nat×Value)}{o:Oper}
theorem oH {t:Array TypeId}{x y:Operand}{m n:Int}(ho:o.op=.call { callee:=.builtin .min,args:=#[x,y],argTypes:=t }) (hx:ev env x=some (.int .i64 m)) (hy:ev env y=some (.int .i64 n)):RunV P N w0 l env o (.int .i64 (min m n)):=fun a w st=>by
  have e:(if n<m then n else m)=min m n:=by split<;>omega
  have bm:∀(ats:Array TypeId) (ty:TypeId) (cs:Array Bool) (args:Array Value),builtin .min ats ty cs args=(do pure (.value (←Builtin.min_ ats ty args))):=fun _ _ _ _=>rfl
  have h:=run_min_int2 (P:=P) w t o.type .i64 .i64 m n
  simp only[execOp,ho,resolve,invoke,bm,Sem.run_bind,Sem.run_pure,Result.andThen_ok,List.map_toArray,List.map_cons,List.map_nil,st.eval hx,st.eval hy,h,GT.gt,e]
end
theorem bS {α:Type}{l:List α}{k:Nat}{d:α}(h:k<l.length):l.getD k d∈l:=by
  rw[List.getD_eq_getElem?_getD,List.getElem?_eq_getElem h];exact List.getElem_mem h
theorem fZ {α:Type}{l m:List α}{k:Nat}{d:α}(h:k<l.length):(l++m).getD k d=l.getD k d:=by
  rw[List.getD_eq_getElem?_getD,List.getElem?_append_left h,←List.getD_eq_getElem?_getD]
theorem fK {α:Type}{l m:List α}{k:Nat}{d:α}(h:l.length≤k):(l++m).getD k d=m.getD (k-l.length) d:=by
  rw[List.getD_eq_getElem?_getD,List.getElem?_append_right h,←List.getD_eq_getElem?_getD]
structure An where
  a:Int
  b:Int
abbrev an0:An:=⟨0,0⟩
def anC (r:An):List Value:=[.int .i64 r.a,.int .i64 r.b]
structure Sq where
  kd:Int
  it:Int
  iv:Value
  xs:List Int
abbrev sq0:Sq:=⟨0,0,.slice none 0 0,[]⟩
def sqC (r:Sq):List Value:=[.int .i64 r.kd,.int .i64 r.it,r.iv]
abbrev sqPart (r:Sq):HP:=rowE 3 1 r.iv r.xs.length (r.xs.map (Value.int .i64))
abbrev sqsE (v:Value) (ss:List Sq):HP:=bigE [bigE (ss.map sqPart),rowE 46 3 v ss.length (ss.flatMap sqC)]
structure Nt where
  ins:Int
  sv:Value
  av:Value
  ov:Value
  ss:List Sq
  gs:List An
  os:List Int
abbrev Nt.agg (n:Nt):Value:=.agg #[.int .i64 n.ins,n.sv,n.av,n.ov]
abbrev ntE (n:Nt):HP:=bigE [sqsE n.sv n.ss,rowE 67 2 n.av n.gs.length (n.gs.flatMap anC),rowE 3 1 n.ov n.os.length (n.os.map (Value.int .i64))]
structure RdsNt (w:World) (n:Nt):Prop where
  sq:RdsW w n.sv 3 n.ss.length (n.ss.flatMap sqC)
  xs:∀s∈n.ss,RdsW w s.iv 1 s.xs.length (s.xs.map (Value.int .i64))
  an:RdsW w n.av 2 n.gs.length (n.gs.flatMap anC)
  ou:RdsW w n.ov 1 n.os.length (n.os.map (Value.int .i64))
theorem RdsNt.below {w w':World}{n:Nt}(h:RdsNt w n) (hb:Below w.heap.size w w'):RdsNt w' n:=⟨h.sq.below hb,fun s hs=>(h.xs s hs).below hb,h.an.below hb,h.ou.below hb⟩
theorem RdsNt.at {w:World}{n:Nt}(h:RdsNt w n) {k:Nat}(hk:k<n.ss.length):RdsW w (n.ss.getD k sq0).iv 1 (n.ss.getD k sq0).xs.length ((n.ss.getD k sq0).xs.map (Value.int .i64)):=h.xs _ (bS hk)
theorem tX {w0:World}{l:List HP}{n:Nt}(i:Nat) (hi:l[i]? = some (ntE n)) (w:World) (hm:Mem w0 l w):RdsNt w n:=by
  obtain⟨b1, -⟩:=hm.holds _ (bX hi)
  have c1:=(b1 _ (List.mem_cons_self)).2
  have c2:=(b1 _ (List.mem_cons_of_mem _ List.mem_cons_self)).2
  have c3:=(b1 _ (List.mem_cons_of_mem _ (List.mem_cons_of_mem _ List.mem_cons_self))).2
  obtain⟨d1, -⟩:=c1
  have e1:=(d1 _ (List.mem_cons_self)).2
  have e2:=(d1 _ (List.mem_cons_of_mem _ List.mem_cons_self)).2
  exact⟨bT e2,fun s hs=>bT (e1.1 (sqPart s) (List.mem_map.2 ⟨s,hs,rfl⟩)).2,bT c2,bT c3⟩
def Nt.fst (n:Nt):Int:=1+n.ins+n.ss.length
def Nt.cnt (n:Nt):Int:=1+n.ins+n.ss.length+n.gs.length
def LtOk (x m:Int):Prop:=0≤x∧x<2*m
structure SqOk (s:Sq):Prop where
  kind:(s.kd=0∧(0≤s.it∧s.it≤1)∧s.xs.length=1)∨(s.kd=1∧(0≤s.it∧s.it≤31)∧s.xs.length=4)
structure NtOk (n:Nt):Prop where
  i0:0≤n.ins
  i1:n.ins≤20
  s1:n.ss.length≤12
  a1:n.gs.length≤300
  o1:n.os.length≤16
  sq:∀s∈n.ss,SqOk s
  xs:∀s∈n.ss,∀x∈s.xs,LtOk x n.cnt
  an:∀k,k<n.gs.length→LtOk (n.gs.getD k an0).a (n.fst+k)∧LtOk (n.gs.getD k an0).b (n.fst+k)
  ou:∀x∈n.os,LtOk x n.cnt
theorem SqOk.len {s:Sq}(h:SqOk s):s.xs.length≤4:=by rcases h.kind with⟨_,_,h⟩|⟨_,_,h⟩<;>omega
def rtsL (n:Nt) (k:Nat):List Int:=n.os++(n.ss.take k).flatMap Sq.xs
theorem eT {α:Type}{l:List α}{k:Nat}(d:α) (h:k<l.length):l.take (k+1)=l.take k++[l.getD k d]:=by
  rw[List.take_succ_eq_append_getElem h,List.getD_eq_getElem?_getD,List.getElem?_eq_getElem h];rfl
theorem iT (n:Nt) {k:Nat}(h:k<n.ss.length):rtsL n k++(n.ss.getD k sq0).xs=rtsL n (k+1):=by
  unfold rtsL;rw[eT sq0 h,List.flatMap_append,List.append_assoc];simp
theorem gM {n:Nt}(h:NtOk n):∀k,k≤n.ss.length→(rtsL n k).length≤16+4*k
  | 0,_=>by have:=h.o1;simp[rtsL];omega
  | k+1,hk=>by
    rw[←iT n (by omega),List.length_append]
    have:=gM h k (by omega)
    have:=(h.sq _ (bS (d:=sq0) (show k<n.ss.length by omega))).len
    omega
theorem eM {n:Nt}(h:NtOk n) {i:Nat}(hi:i<(rtsL n n.ss.length).length):LtOk ((rtsL n n.ss.length).getD i 0) n.cnt:=by
  have hm:=bS (d:=(0:Int)) hi
  generalize (rtsL n n.ss.length).getD i 0=x at *
  unfold rtsL at hm
  rw[List.take_length,List.mem_append,List.mem_flatMap] at hm
  rcases hm with hm|⟨s,hs,hx⟩
  · exact h.ou x hm
  · exact h.xs s hs x hx
def bitL (v:List Int) (l:Int):Int:=if l % 2=0 then v.getD (l / 2).toNat 0 else 1-v.getD (l / 2).toNat 0
def B01 (v:List Int):Prop:=∀k,k<v.length→v.getD k 0=0∨v.getD k 0=1
theorem jA {v:List Int}(h:B01 v) {l:Int}(h0:0≤l) (h1:l<2*v.length):bitL v l=0∨bitL v l=1:=by
  unfold bitL
  have:=h (l / 2).toNat (by omega)
  split<;>omega
def leafL (n:Nt) (st:List Int) (inp:Int):List Int:=[0]++(List.range n.ins.toNat).map (fun k=>inp / 2 ^ k % 2)++st.map (· % 2)
def valL (n:Nt) (st:List Int) (inp:Int) (k:Nat):List Int:=(n.gs.take k).foldl (fun v a=>v++[bitL v a.a*bitL v a.b]) (leafL n st inp)
abbrev valsL (n:Nt) (st:List Int) (inp:Int):List Int:=valL n st inp n.gs.length
theorem wC (n:Nt) (st:List Int) (inp:Int):(leafL n st inp).length=1+n.ins.toNat+st.length:=by simp[leafL];omega
theorem kF (n:Nt) (st:List Int) (inp:Int) {k:Nat}(h:k<n.gs.length):valL n st inp (k+1)=valL n st inp k++[bitL (valL n st inp k) (n.gs.getD k an0).a*bitL (valL n st inp k) (n.gs.getD k an0).b]:=by
  unfold valL;rw[eT an0 h,List.foldl_append];rfl
theorem gE (n:Nt) (st:List Int) (inp:Int):∀k,k≤n.gs.length→(valL n st inp k).length=1+n.ins.toNat+st.length+k
  | 0,_=>by simp[valL,wC]
  | k+1,h=>by rw[kF n st inp (by omega),List.length_append,gE n st inp k (by omega)];simp;omega
theorem Gk {v:List Int}{x:Int}(h:B01 v) (hx:x=0∨x=1):B01 (v++[x]):=fun k hk=>by
  rw[List.length_append,List.length_singleton] at hk
  by_cases hc:k<v.length
  · rw[fZ hc];exact h k hc
  · rw[fK (by omega),show k-v.length=0 by omega];exact hx
theorem leaf01 (n:Nt) (st:List Int) (inp:Int):B01 (leafL n st inp):=fun k hk=>by
  have key:∀x∈leafL n st inp,x=0∨x=1:=by
    intro x hx
    unfold leafL at hx
    simp only[List.mem_append,List.mem_singleton,List.mem_map] at hx
    rcases hx with(rfl|⟨q,_,rfl⟩)|⟨q,_,rfl⟩<;>omega
  exact key _ (bS hk)
theorem vF {n:Nt}(h:NtOk n) {st:List Int}(hs:st.length=n.ss.length) (inp:Int):∀k,k≤n.gs.length→B01 (valL n st inp k)
  | 0,_=>by show B01 (leafL n st inp);exact leaf01 n st inp
  | k+1,hk=>by
    rw[kF n st inp (by omega)]
    have ih:=vF h hs inp k (by omega)
    have hl:=gE n st inp k (by omega)
    have ha:=h.an k (by omega)
    have hi:=h.i0
    unfold LtOk Nt.fst at ha
    refine Gk ih ?_
    rcases jA ih ha.1.1 (by omega) with e|e<;>rcases jA ih ha.2.1 (by omega) with e'|e'<;>rw[e,e']<;>decide
theorem kO (n:Nt) (st:List Int) (inp:Int):∀(m k:Nat),k≤m→m≤n.gs.length→∀i,i<(valL n st inp k).length→(valL n st inp m).getD i 0=(valL n st inp k).getD i 0
  | 0,k,h,_,i,hi=>by rw[show k=0 by omega]
  | m+1,k,h,hm,i,hi=>by
    by_cases hk:k=m+1
    · rw[hk]
    · have hl := gE n st inp k (by omega)
      have hl2:=gE n st inp m (by omega)
      rw[kF n st inp (by omega),fZ (by omega)]
      exact kO n st inp m k (by omega) (by omega) i hi
theorem uX {u v:List Int}{m:Nat}(h:∀i,i<m→v.getD i 0=u.getD i 0) {l:Int}(h0:0≤l) (h1:l<2*m):bitL v l=bitL u l:=by
  unfold bitL;rw[h (l / 2).toNat (by omega)]
theorem tJ {n:Nt}(h:NtOk n) {st:List Int}(hs:st.length=n.ss.length) (inp:Int) {k:Nat}(hk:k<n.gs.length) :
    (valsL n st inp).getD (n.fst+k).toNat 0=bitL (valsL n st inp) (n.gs.getD k an0).a*bitL (valsL n st inp) (n.gs.getD k an0).b:=by
  have hl:=gE n st inp k (by omega)
  have hl1:=gE n st inp (k+1) (by omega)
  have ha:=h.an k hk
  have hi:=h.i0
  unfold LtOk at ha
  have hf:n.fst=1+n.ins+n.ss.length:=rfl
  rw[kO n st inp n.gs.length (k+1) (by omega) (Nat.le_refl _) _ (by omega),kF n st inp hk,fK (by omega),show(n.fst+k).toNat-(valL n st inp k).length=0 by omega]
  have hp:=kO n st inp n.gs.length k (by omega) (Nat.le_refl _)
  rw[uX hp ha.1.1 (by omega),uX hp ha.2.1 (by omega)];rfl
theorem Ex {n:Nt}(st:List Int) (inp:Int):(valsL n st inp).getD 0 0=0:=by
  rw[kO n st inp n.gs.length 0 (by omega) (Nat.le_refl _) 0 (by rw[gE n st inp 0 (by omega)];omega)];rfl
abbrev nB9 (b:Nat) (n:Nt):HP:=boxE b #[.int .i64 n.ins,n.sv,n.av,n.ov] 28
abbrev eB9 (b:Nat):HP:=boxE b #[.int .i64 0,.slice none 0 0,.slice none 0 0,.slice none 0 0] 28
abbrev gV9 (vs:List Value) (i:Nat):Value:=List.getD vs i undef
abbrev rI9 (e:Nat) (v:Value) (l:List Int):HP:=rowE e 1 v l.length (l.map (Value.int .i64))
abbrev rS9 {α:Type}(e s:Nat) (v:Value) (l:List α) (f:α→List Value):HP:=rowE e s v l.length (l.flatMap f)
abbrev jI (x:Int):Value:=.int .i64 x
abbrev mI (l:List Int):List Value:=l.map (Value.int .i64)
abbrev pI (b:Nat):Value:=.pointer (some ⟨b,0,none⟩)
theorem cL {α:Type}{a:α}{l:List α}:a∈a::l:=List.mem_cons_self
theorem dK {α:Type}{a b:α}{l:List α}(h:a∈l):a∈b::l:=List.mem_cons_of_mem _ h
theorem kE {α:Type}{l L:List α}(n:Nat) (h:L.drop n=l):l.Sublist L:=h▸List.drop_sublist n L
theorem Ff {w0 w:World}{l:List HP}{e size n:Nat}{v:Value}{xs:List Value}(hm:Mem w0 l w) (i:Nat) (hi:l[i]? = some (rowE e size v n xs)):RdsW w v size n xs:=aG i hi w hm
def xr (a:Int):Int:=if a % 2=0 then a+1 else a-1
theorem iZ {a m:Int}(h:LtOk a m):LtOk (xr a) m:=by unfold LtOk xr at *;split<;>omega
theorem lV (v:List Int) {a:Int}(h0:0≤a):bitL v (xr a)=1-bitL v a:=by
  unfold bitL xr
  by_cases h:a % 2=0
  · rw[if_pos h,if_neg (by omega),if_pos h,show(a+1) / 2=a / 2 by omega]
  · rw[if_neg h,if_pos (by omega),if_neg h,show(a-1) / 2=a / 2 by omega];omega
def withG (n:Nt) (gs:List An):Nt:={ n with gs:=gs }
theorem tC (n:Nt) (gs:List An):(withG n gs).cnt=n.fst+gs.length:=rfl
theorem sV (n:Nt) (gs:List An):(withG n gs).fst=n.fst:=rfl
theorem Cn {n:Nt}{gs t:List An}(h:NtOk (withG n gs)) {st:List Int}(hs:st.length=n.ss.length) (inp:Int):∀i,i<(n.fst+gs.length).toNat→(valsL (withG n (gs++t)) st inp).getD i 0=(valsL (withG n gs) st inp).getD i 0:=fun i hi=>by
  have hi0:0≤n.ins:=h.i0
  have hf:n.fst=1+n.ins+n.ss.length:=rfl
  have e:valL (withG n (gs++t)) st inp gs.length=valsL (withG n gs) st inp:=by
    show((gs++t).take gs.length).foldl _ (leafL n st inp)=(gs.take gs.length).foldl _ (leafL n st inp)
    rw[List.take_left,List.take_length]
  have hl:(valL (withG n (gs++t)) st inp gs.length).length=1+n.ins.toNat+st.length+gs.length:=gE _ st inp _ (by show gs.length≤(gs++t).length;rw[List.length_append];omega)
  have:=kO (withG n (gs++t)) st inp (gs++t).length gs.length (by rw[List.length_append];omega) (Nat.le_refl _) i (by omega)
  rw[e] at this;exact this
theorem pZ {n:Nt}{gs t:List An}(h:NtOk (withG n gs)) {st:List Int}(hs:st.length=n.ss.length) (inp:Int) {l:Int}(hl:LtOk l (n.fst+gs.length)):bitL (valsL (withG n (gs++t)) st inp) l=bitL (valsL (withG n gs) st inp) l:=by
  have hi0:0≤n.ins:=h.i0
  have hf:n.fst=1+n.ins+n.ss.length:=rfl
  exact uX (m:=(n.fst+gs.length).toNat) (Cn h hs inp) hl.1 (by have:=hl.2;omega)
structure AddOk (n:Nt) (gs gs':List An) (x:Int) (k:Nat) (f:(Int→Int)→Int):Prop where
  ext:∃t,gs'=gs++t∧t.length≤k
  ok:NtOk (withG n gs')
  lit:LtOk x (n.fst+gs'.length)
  val:∀(st:List Int) (inp:Int),st.length=n.ss.length→bitL (valsL (withG n gs') st inp) x=f (bitL (valsL (withG n gs) st inp))
theorem AddOk.len {n:Nt}{gs gs':List An}{x:Int}{k:Nat}{f:(Int→Int)→Int}(h:AddOk n gs gs' x k f):gs.length≤gs'.length∧gs'.length≤gs.length+k:=by
  obtain⟨t,rfl,ht⟩:=h.ext;rw[List.length_append];omega
theorem AddOk.keep {n:Nt}{gs gs':List An}{x:Int}{k:Nat}{f:(Int→Int)→Int}(h:AddOk n gs gs' x k f) (h0:NtOk (withG n gs)) {st:List Int}(hs:st.length=n.ss.length) (inp:Int) {l:Int}(hl:LtOk l (n.fst+gs.length)):bitL (valsL (withG n gs') st inp) l=bitL (valsL (withG n gs) st inp) l:=by
  obtain⟨t,rfl,ht⟩:=h.ext;exact pZ h0 hs inp hl
theorem rI {n:Nt}{gs:List An}(h:NtOk (withG n gs)) {st:List Int}(hs:st.length=n.ss.length) (inp:Int) {l:Int}(hl:LtOk l (n.fst+gs.length)):bitL (valsL (withG n gs) st inp) l=0∨bitL (valsL (withG n gs) st inp) l=1:=by
  have hi0:0≤n.ins:=h.i0
  have hf:n.fst=1+n.ins+n.ss.length:=rfl
  have hlen:(valsL (withG n gs) st inp).length=1+n.ins.toNat+st.length+gs.length:=gE _ st inp _ (Nat.le_refl _)
  exact jA (v:=valsL (withG n gs) st inp) (vF h hs inp _ (Nat.le_refl _)) hl.1 (by have h9:=hl.2;rw[hlen];omega)
abbrev fAnd (a b:Int):(Int→Int)→Int:=fun ev=>ev a*ev b
theorem Et {n:Nt}{gs:List An}{a b:Int}(h:NtOk (withG n gs)) (ha:LtOk a (n.fst+gs.length)) (hb:LtOk b (n.fst+gs.length)) (hc:a=0∨b=0∨xr a=b):AddOk n gs gs 0 1 (fAnd a b):=by
  have hi0:0≤n.ins:=h.i0
  have hf:n.fst=1+n.ins+n.ss.length:=rfl
  have h0:∀(st:List Int) (inp:Int),bitL (valsL (withG n gs) st inp) 0=0:=fun st inp=>by unfold bitL;rw[if_pos (by decide)];exact Ex (n:=withG n gs) st inp
  refine⟨⟨[],by simp,by simp⟩,h,⟨by omega,by omega⟩,fun st inp hs=>?_⟩
  rw[h0]
  show 0=_*_
  rcases hc with rfl|rfl|rfl
  · rw[h0,Int.zero_mul]
  · rw[h0,Int.mul_zero]
  · rw [lV _ ha.1]
    rcases rI h hs inp ha with e|e<;>rw[e]<;>decide
theorem Au {n:Nt}{gs:List An}{a b:Int}(h:NtOk (withG n gs)) (ha:LtOk a (n.fst+gs.length)) (hb:LtOk b (n.fst+gs.length)) (hc:a=1∨a=b):AddOk n gs gs b 1 (fAnd a b):=by
  refine⟨⟨[],by simp,by simp⟩,h,hb,fun st inp hs=>?_⟩
  show _=_*_
  rcases hc with rfl|rfl
  · have h1:bitL (valsL (withG n gs) st inp) 1=1:=by
      have:=lV (valsL (withG n gs) st inp) (a:=0) (Int.le_refl _)
      rw[show xr 0=1 by decide] at this
      rw[this];unfold bitL;rw[if_pos (by decide)]
      have:=Ex (n:=withG n gs) st inp
      rw[show((0:Int) / 2).toNat=0 by decide,this];decide
    rw[h1,Int.one_mul]
  · rcases rI h hs inp ha with e|e<;>rw[e]<;>decide
theorem AddOk.swap {n:Nt}{gs gs':List An}{x a b:Int}{k:Nat}(h:AddOk n gs gs' x k (fAnd a b)):AddOk n gs gs' x k (fAnd b a):=⟨h.ext,h.ok,h.lit,fun st inp hs=>by rw[h.val st inp hs];exact Int.mul_comm _ _⟩
theorem zY {v:List Int}(a b:Int):bitL v (min a b)*bitL v (max a b)=bitL v a*bitL v b:=by
  rcases Int.le_total a b with h|h
  · rw[Int.min_eq_left h,Int.max_eq_right h]
  · rw[Int.min_eq_right h,Int.max_eq_left h,Int.mul_comm]
theorem Ce {n:Nt}{gs:List An}{a b:Int}{i:Nat}(h:NtOk (withG n gs)) (hi:i<gs.length) (h1:(gs.getD i an0).a=min a b) (h2:(gs.getD i an0).b=max a b):AddOk n gs gs (2*(n.fst+i)) 1 (fAnd a b):=by
  have hi0:0≤n.ins:=h.i0
  have hf:n.fst=1+n.ins+n.ss.length:=rfl
  refine⟨⟨[],by simp,by simp⟩,h,⟨by omega,by omega⟩,fun st inp hs=>?_⟩
  have:=tJ h hs inp (k:=i) hi
  rw[sV] at this
  show _=_*_
  unfold bitL
  rw[if_pos (by omega),show 2*(n.fst+(i:Int)) / 2=n.fst+i by omega,this]
  show bitL _ (gs.getD i an0).a*bitL _ (gs.getD i an0).b=bitL _ a*bitL _ b
  rw[h1,h2,zY]
theorem Av {n:Nt}{gs:List An}{a b:Int}(h:NtOk (withG n gs)) (ha:LtOk a (n.fst+gs.length)) (hb:LtOk b (n.fst+gs.length)) (hl:gs.length<300):AddOk n gs (gs++[An.mk (min a b) (max a b)]) (2*(n.fst+gs.length)) 1 (fAnd a b):=by
  have hi0:0≤n.ins:=h.i0
  have hf:n.fst=1+n.ins+n.ss.length:=rfl
  have hlen:(gs++[An.mk (min a b) (max a b)]).length=gs.length+1:=by simp
  have hok:NtOk (withG n (gs++[An.mk (min a b) (max a b)])):=by
    refine⟨h.i0,h.i1,h.s1,by show(gs++[_]).length≤300;omega,h.o1,h.sq,fun s hs x hx=>?_,fun k hk=>?_,fun x hx=>?_⟩
    · have:=h.xs s hs x hx;rw[tC] at this ⊢;unfold LtOk at *;omega
    · have hk' : k < gs.length + 1 := by rw [← hlen]; exact hk
      show LtOk ((gs++[An.mk (min a b) (max a b)]).getD k an0).a (n.fst+k)∧LtOk ((gs++[An.mk (min a b) (max a b)]).getD k an0).b (n.fst+k)
      by_cases e:k<gs.length
      · rw[fZ e];exact h.an k e
      · rw [fK (by omega), show k - gs.length = 0 by omega]
        show LtOk (min a b) _∧LtOk (max a b) _
        unfold LtOk at *
        omega
    · have:=h.ou x hx;rw[tC] at this ⊢;unfold LtOk at *;omega
  refine⟨⟨_,rfl,by simp⟩,hok,⟨by omega,by omega⟩,fun st inp hs=>?_⟩
  have:=tJ hok hs inp (k:=gs.length) (by show gs.length<(gs++[_]).length;omega)
  rw[sV] at this
  show _=_*_
  have e1:=pZ (t:=[An.mk (min a b) (max a b)]) h hs inp ha
  have e2:=pZ (t:=[An.mk (min a b) (max a b)]) h hs inp hb
  rw[←e1,←e2]
  have e3:bitL (valsL (withG n (gs++[An.mk (min a b) (max a b)])) st inp) (2*(n.fst+gs.length))=(valsL (withG n (gs++[An.mk (min a b) (max a b)])) st inp).getD (n.fst+gs.length).toNat 0:=by
    conv=>lhs;unfold bitL
    rw[if_pos (by omega),show 2*(n.fst+(gs.length:Int)) / 2=n.fst+gs.length by omega]
  rw[e3,this]
  show bitL _ ((gs++[An.mk (min a b) (max a b)]).getD gs.length an0).a*bitL _ ((gs++[An.mk (min a b) (max a b)]).getD gs.length an0).b=_
  rw[fK (Nat.le_refl _),Nat.sub_self]
  exact zY a b
abbrev fOr (a b:Int):(Int→Int)→Int:=fun ev=>1-(1-ev a)*(1-ev b)
theorem AddOk.orr {n:Nt}{gs gs':List An}{x a b:Int}{k:Nat}(ha:0≤a) (hb:0≤b) (h:AddOk n gs gs' x k (fAnd (xr a) (xr b))):AddOk n gs gs' (xr x) k (fOr a b):=⟨h.ext,h.ok,iZ h.lit,fun st inp hs=>by
  rw[lV _ h.lit.1,h.val st inp hs]
  show 1-bitL _ (xr a)*bitL _ (xr b)=_
  rw[lV _ ha,lV _ hb]⟩
theorem AddOk.pair {n:Nt}{gs g1 g2 g3:List An}{a b c e p q x:Int}(h0:NtOk (withG n gs)) (ha:LtOk a (n.fst+gs.length)) (hb:LtOk b (n.fst+gs.length)) (hc:LtOk c (n.fst+gs.length)) (he:LtOk e (n.fst+gs.length))
    (h1:AddOk n gs g1 p 1 (fAnd a b)) (h2:AddOk n g1 g2 q 1 (fAnd c e)) (h3:AddOk n g2 g3 x 1 (fOr p q)):AddOk n gs g3 x 3 (fun ev=>1-(1-ev a*ev b)*(1-ev c*ev e)):=by
  obtain⟨t1,rfl,l1⟩:=h1.ext
  obtain⟨t2,rfl,l2⟩:=h2.ext
  obtain⟨t3,rfl,l3⟩:=h3.ext
  refine⟨⟨t1++t2++t3,by simp,by simp only[List.length_append];omega⟩,h3.ok,h3.lit,fun st inp hs=>?_⟩
  rw[h3.val st inp hs]
  show 1-(1-bitL _ p)*(1-bitL _ q)=_
  rw[h2.val st inp hs,h2.keep h1.ok hs inp h1.lit,h1.val st inp hs]
  show 1-(1-_)*(1-bitL _ c*bitL _ e)=_
  rw[h1.keep h0 hs inp hc,h1.keep h0 hs inp he]
instance decLtOk (x m:Int):Decidable (LtOk x m):=inferInstanceAs (Decidable (_∧_))
def fndA (a b:Int):List An→Nat
  | []=>0
  | g::gs=>if g.a=a∧g.b=b then 0 else fndA a b gs+1
theorem Af (a b:Int):∀gs:List An,fndA a b gs≤gs.length
  | []=>Nat.le_refl _
  | g::gs=>by
    unfold fndA;split
    · exact Nat.zero_le _
    · have:=Af a b gs;rw[List.length_cons];omega
theorem pY {a b:Int}:∀ {gs:List An},fndA a b gs<gs.length→(gs.getD (fndA a b gs) an0).a=a∧(gs.getD (fndA a b gs) an0).b=b
  | [],h=>absurd h (Nat.not_lt_zero _)
  | g::gs,h=>by
    by_cases e:g.a=a∧g.b=b
    · have e0 : fndA a b (g :: gs) = 0 := by unfold fndA; rw [if_pos e]
      rw[e0];exact e
    · have e0 : fndA a b (g :: gs) = fndA a b gs + 1 := by conv => lhs; unfold fndA
                                                           rw[if_neg e]
      rw[e0] at h ⊢
      exact pY (gs:=gs) (by rw[List.length_cons] at h;omega)
theorem wU {a b:Int}:∀ {gs:List An}{i:Nat},i<gs.length→(gs.getD i an0).a=a∧(gs.getD i an0).b=b→(∀q,q<i→¬((gs.getD q an0).a=a∧(gs.getD q an0).b=b))→fndA a b gs=i
  | [],_,h,_,_=>absurd h (Nat.not_lt_zero _)
  | g::gs,0,_,he,_=>by unfold fndA;exact if_pos he
  | g::gs,i+1,h,he,hn=>by
    have e:¬(g.a=a∧g.b=b):=hn 0 (Nat.succ_pos i)
    unfold fndA;rw[if_neg e,wU (gs:=gs) (i:=i) (by rw[List.length_cons] at h;omega) he (fun q hq=>hn (q+1) (by omega))]
theorem sX {a b:Int}{gs:List An}(hn:∀q,q<gs.length→¬((gs.getD q an0).a=a∧(gs.getD q an0).b=b)):fndA a b gs=gs.length:=by
  rcases Nat.lt_or_ge (fndA a b gs) gs.length with h|h
  · exact absurd (pY h) (hn _ h)
  · exact Nat.le_antisymm (Af a b gs) h
def andO (f:Int) (gs:List An) (a b:Int):Option (List An×Int):=
  if LtOk a (f+gs.length)∧LtOk b (f+gs.length) then
    if a=0∨b=0∨xr a=b then some (gs,0) else if a=1∨a=b then some (gs,b) else if b=1 then some (gs,a)
    else if fndA (min a b) (max a b) gs<gs.length then some (gs,2*(f+(fndA (min a b) (max a b) gs:Nat)))
    else if gs.length<300 then some (gs++[An.mk (min a b) (max a b)],2*(f+gs.length)) else none
  else none
def orO (f:Int) (gs:List An) (a b:Int):Option (List An×Int):=(andO f gs (xr a) (xr b)).map (fun r=>(r.1,xr r.2))
def xorO (f:Int) (gs:List An) (a b:Int):Option (List An×Int):=(andO f gs a (xr b)).bind fun r=>(andO f r.1 (xr a) b).bind fun s=>orO f s.1 r.2 s.2
theorem gA {f:Int}{gs:List An}{a b:Int}(h:¬(LtOk a (f+gs.length)∧LtOk b (f+gs.length))):andO f gs a b=none:=if_neg h
theorem oY {f:Int}{gs:List An}{a b:Int}{r:List An×Int}(e:andO f gs a b=some r):LtOk a (f+gs.length)∧LtOk b (f+gs.length):=by
  by_cases h:LtOk a (f+gs.length)∧LtOk b (f+gs.length)
  · exact h
  · rw[gA h] at e;cases e
theorem jJ {n:Nt}{gs:List An}{a b:Int}{r:List An×Int}(h:NtOk (withG n gs)) (e:andO n.fst gs a b=some r):AddOk n gs r.1 r.2 1 (fAnd a b):=by
  obtain⟨ha,hb⟩:=oY e
  unfold andO at e
  rw[if_pos ⟨ha,hb⟩] at e
  split at e
  · next hc=>cases e;exact Et h ha hb hc
  · split at e
    · next hc=>cases e;exact Au h ha hb hc
    · split at e
      · next hc=>cases e;exact(Au h hb ha (.inl hc)).swap
      · split at e
        · next hc=>cases e;exact Ce h hc (pY hc).1 (pY hc).2
        · split at e
          · next hc=>cases e;exact Av h ha hb hc
          · cases e
theorem Gn {a:Int}(h:0≤a):xr (xr a)=a:=by unfold xr;split<;>split<;>omega
theorem xR {a m:Int}(h:LtOk (xr a) m):LtOk a m:=by unfold LtOk xr at *;split at h<;>omega
theorem qP {f:Int}{gs:List An}{a b:Int}{r:List An×Int}(e:orO f gs a b=some r):LtOk a (f+gs.length)∧LtOk b (f+gs.length):=by
  unfold orO at e
  cases e1:andO f gs (xr a) (xr b) with
  | none=>rw[e1] at e;cases e
  | some s=>obtain⟨h1,h2⟩:=oY e1;exact⟨xR h1,xR h2⟩
theorem tW {n:Nt}{gs:List An}{a b:Int}{r:List An×Int}(h:NtOk (withG n gs)) (e:orO n.fst gs a b=some r):AddOk n gs r.1 r.2 1 (fOr a b):=by
  obtain⟨ha,hb⟩:=qP e
  unfold orO at e
  cases e1:andO n.fst gs (xr a) (xr b) with
  | none=>rw[e1] at e;cases e
  | some s=>rw[e1] at e;cases e;exact(jJ h e1).orr ha.1 hb.1
abbrev fXor (a b:Int):(Int→Int)→Int:=fun ev=>1-(1-ev a*(1-ev b))*(1-(1-ev a)*ev b)
theorem AddOk.cng {n:Nt}{gs gs':List An}{x:Int}{k:Nat}{f g:(Int→Int)→Int}(h:AddOk n gs gs' x k f) (e:∀v:List Int,f (bitL v)=g (bitL v)):AddOk n gs gs' x k g:=⟨h.ext,h.ok,h.lit,fun st inp hs=>(h.val st inp hs).trans (e _)⟩
theorem sA {f:Int}{gs:List An}{a b:Int}{r:List An×Int}(e:xorO f gs a b=some r):LtOk a (f+gs.length)∧LtOk b (f+gs.length):=by
  unfold xorO at e
  cases e1:andO f gs a (xr b) with
  | none=>rw[e1] at e;cases e
  | some s=>obtain⟨h1,h2⟩:=oY e1;exact⟨h1,xR h2⟩
theorem zJ {n:Nt}{gs:List An}{a b:Int}{r:List An×Int}(h:NtOk (withG n gs)) (e:xorO n.fst gs a b=some r):AddOk n gs r.1 r.2 3 (fXor a b):=by
  obtain⟨ha,hb⟩:=sA e
  unfold xorO at e
  cases e1:andO n.fst gs a (xr b) with
  | none=>rw[e1] at e;cases e
  | some s=>
    rw[e1] at e
    have k1:=jJ h e1
    cases e2:andO n.fst s.1 (xr a) b with
    | none=>rw[show(some s).bind _=_ from rfl] at e;dsimp only[Option.bind] at e;rw[e2] at e;cases e
    | some u=>
      dsimp only[Option.bind] at e;rw[e2] at e
      have k2:=jJ k1.ok e2
      have k3:=tW k2.ok (r:=r) e
      exact(AddOk.pair h ha (iZ hb) (iZ ha) hb k1 k2 k3).cng (fun v=>by show 1-(1-bitL v a*bitL v (xr b))*(1-bitL v (xr a)*bitL v b)=_;rw[lV v ha.1,lV v hb.1])
open Go.RowKit
theorem pU {N:Nat}{w0:World}{l:List HP}{env:List (Nat×Value)}{Q:Post}{ex:Exit}{i e s n:Nat}{v:Value}{xs:List Value}(hi:l[i]? = some (rowE e s v n xs)) (k:v.oneCell'=true→HQ N w0 l env ex Q):HQ N w0 l env ex Q:=fun a w st=>k (bT (st.mem.holds _ (bX hi))).one a w st
def AnsOk (f:Int) (gs:List An):Prop:=∀k,k<gs.length→LtOk (gs.getD k an0).a (f+k)∧LtOk (gs.getD k an0).b (f+k)
theorem Ar {f:Int}{gs:List An}{a b:Int}(h:AnsOk f gs) (ha:LtOk a (f+gs.length)) (hb:LtOk b (f+gs.length)):AnsOk f (gs++[An.mk a b]):=fun k hk=>by
  rw[List.length_append,List.length_singleton] at hk
  by_cases hc:k<gs.length
  · rw[fZ hc];exact h k hc
  · rw[fK (by omega),show k-gs.length=0 by omega,show k=gs.length by omega];exact⟨ha,hb⟩
def SqsOk (m:Int) (ss:List Sq):Prop:=∀s∈ss,SqOk s∧∀x∈s.xs,LtOk x m
theorem zM {m:Int}{ss:List Sq}{s:Sq}(h:SqsOk m ss) (h1:SqOk s) (h2:∀x∈s.xs,LtOk x m):SqsOk m (ss++[s]):=fun r hr=>by
  rcases List.mem_append.1 hr with hr|hr
  · exact h r hr
  · rw[List.mem_singleton] at hr;subst hr;exact⟨h1,h2⟩
def OsOk (m:Int) (os:List Int):Prop:=∀x∈os,LtOk x m
theorem os_app {m:Int}{os:List Int}{x:Int}(h:OsOk m os) (hx:LtOk x m):OsOk m (os++[x]):=fun r hr=>by
  rcases List.mem_append.1 hr with hr|hr
  · exact h r hr
  · rw[List.mem_singleton] at hr;subst hr;exact hx
theorem nD {w0:World}{ps l:List HP}{p:HP}:Conv w0 (bigE ps::p::l) (bigE (ps++[p])::l):=fun w hm=>by
  have h1:Mem w0 (ps++(p::l)) w:=hm.unbig
  have h2:Mem w0 ((ps++[p])++l) w:=by simpa using h1
  exact h2.big
theorem nt_mk {ins m f:Int}{sv av ov:Value}{ss:List Sq}{gs:List An}{os:List Int}(h0:0≤ins) (h1:ins≤20) (h2:ss.length≤12) (h3:gs.length≤300) (h4:os.length≤16) (h5:SqsOk m ss) (h6:AnsOk f gs) (h7:OsOk m os)
    (hf:f=1+ins+ss.length) (hm:m=1+ins+ss.length+gs.length):NtOk (Nt.mk ins sv av ov ss gs os):=by
  subst hf hm
  exact⟨h0,h1,h2,h3,h4,fun s hs=>(h5 s hs).1,fun s hs=>(h5 s hs).2,h6,h7⟩
end Go.Proofs.YthmbefiklpoghaaGreat
