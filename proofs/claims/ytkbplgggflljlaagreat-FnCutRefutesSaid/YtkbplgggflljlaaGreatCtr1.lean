/- Texts of the law FnCutRefutes, part 1: what it uses. -/
import Derived.Test.YtkbplgggflljlaaGreatRows
import Derived.WalkKit
import Derived.WalkSpells
import Derived.WalkLawsBesides
import Derived.OpenShut
import Derived.Lib.Hide
import Derived.Below
import Derived.OwnWalk
import Derived.Deep.LoopGhost
import Derived.Laws.Tables
import Derived.Laws.Bits
import Derived.Great.BuildSlice
import Derived.Maps.AppendAt
import Derived.Orders
import Derived.Deep.QuietTactic
import Derived.BigQuiet
import Derived.Deep.RegionWith
import Derived.Laws.CopyOwn
import Derived.Deep.Slices
import Derived.Lib.SmallJoins
import Derived.ChangeArms
import Derived.Deep.RegionHeld3
import Derived.Laws.Cover3
import Derived.Laws.StructEq
import Derived.BigRegion
import Derived.ChangeKeysEq
import Derived.Maps.Own
import Derived.Maps.Views
import Derived.ArgAppend
set_option linter.unusedVariables false
set_option linter.unusedSimpArgs false
set_option maxHeartbeats 4000000
set_option maxRecDepth 100000
namespace Go.Proofs.YtkbplgggflljlaaGreat
open Go.RowKit Go.ChangeShapes
open Go.RowKit
open Go.Maps
open List (drop_succ_cons drop_zero getD_eq_getElem?_getD length_append length_cons length_drop length_map length_replicate length_set length_singleton length_take map_append map_cons map_nil mem_cons_of_mem mem_cons_self mem_range mem_singleton nil_append replicate sublist_append_right take_append_drop take_length)
open Bool (and_eq_true eq_false_or_eq_true)
theorem z8:Tryz.prog.underlying 26=some (.slice 3):=Tryz.underlying26
theorem z9{α:Type _}{a b:List α}:b.Sublist (a++b):=sublist_append_right _ _
theorem AA {p:Prop}(h:p:=by first|omega|(simp only[length_set];omega)):p:=h
theorem AB {p:Prop}(h:p:=by first|(rw[length_replicate];done)|(rw[length_replicate];omega)):p:=h
theorem AC {p:Prop}(h:p:=by first|omega|(simp only[length_append,length_cons,List.length_nil];omega)):p:=h
theorem AD {p:Prop}(h:p:=by first|omega|(simp;done)|(simp;omega)):p:=h
theorem AE {p:Prop}(h:p:=by constructor<;>omega):p:=h
theorem AF {p:Prop}(h:p:=by rw[length_replicate];omega):p:=h
theorem AG {p:Prop}(h:p:=by simp only[length_cons,List.length_nil];first|omega|(simp only[length_set];omega)):p:=h
theorem AH {p:Prop}(h:p:=by refine⟨?_,?_,?_⟩<;>omega):p:=h
theorem AI {p:Prop}(h:p:=by simp):p:=h
theorem AJ {p:Prop}(h:p:=by rintro ⟨e,B,D⟩;first|omega|simp_all):p:=h
theorem AK {p:Prop}(h:p:=by simp[Value.oneCell']):p:=h
theorem AL {p:Prop}(h:p:=by first|omega|(simp only[length_take,length_drop];omega)):p:=h
theorem AM {p:Prop}(h:p:=by first|exact .inl (by omega)|exact .inr (.inl (by assumption))|exact .inr (.inr ⟨by omega,by omega⟩)):p:=h
theorem AN {p:Prop}(h:p:=by constructor<;>(simp only[length_append,length_singleton];omega)):p:=h
theorem AO {p:Prop}(h:p:=by simp only[length_set];omega):p:=h
theorem O {p:Prop}(h:p:=by omega):p:=h
theorem V {p:Prop}(h:p:=by decide):p:=h
theorem F {p:Prop}(h:p:=by kernel_rfl):p:=h
theorem I {p:Prop}(h:p:=by assumption):p:=h
theorem A {α:Sort _}{a:α}:a=a:=rfl
theorem C {α:Sort _}{a:α}:a=a:=rfl
def inR (a b c:Int):Bool:=decide (b≤a)&&decide (a≤c)
theorem gL {a b c:Int}(e:b≤a) (h:a≤c):inR a b c=true:=by unfold inR;simp[e,h]
theorem Au {a b c:Int}(e:b≤a):inR a b c=decide (a≤c):=by unfold inR;simp[e]
theorem oS {a b c:Int}(h:a<b∨c<a):inR a b c=false:=by unfold inR;simp;omega
theorem dA (a b c:Int):inR a b c=true↔b≤a∧a≤c:=by unfold inR;simp
theorem fD {a b:Bool}(h:a=b):Ending.returned (.bool a)=.returned (.bool b):=by rw[h]
theorem fE {k:IntKind}{a b:Int}(h:a=b):Ending.returned (.int k a)=.returned (.int k b):=by rw[h]
theorem Il {z:List Int}{j:Nat}(h:j<z.length):z.getD j 0∈z:=by
  rw[getD_eq_getElem?_getD,List.getElem?_eq_getElem h];exact List.getElem_mem h
theorem Lm {W e:World}(B:Below W.heap.size W e):(∀b o,b<W.heap.size→e.cell? ⟨b,o,none⟩=W.cell? ⟨b,o,none⟩)∧(∀b o,b<W.heap.size→e.frozen? ⟨b,o,none⟩=W.frozen? ⟨b,o,none⟩)∧W.heap.size≤e.heap.size:=
  ⟨fun b o h=>B.cell (p:=⟨b,o,none⟩) h,fun b o h=>B.frozen (p:=⟨b,o,none⟩) h,B.size⟩
theorem gR (w:World) (o:Obj):(w.alloc o).heap.size=w.heap.size+1:=by show(w.heap.push o).size=_;simp
theorem Ja {w e:World}{o:Obj}(h:Below (w.alloc o).heap.size (w.alloc o) e):w.heap.size<e.heap.size:=by
  have:=h.size;rw[gR] at this;omega
theorem xE {a b c:World}(e:Below a.heap.size a b) (h:Below b.heap.size b c):Below a.heap.size a c:=e.trans (h.mono e.size)
theorem eO {a b:World}(h:Below a.heap.size a b) (o:Obj):Below a.heap.size a (b.alloc o):=h.alloc h.size o
theorem gF {a b:World}(h:Below a.heap.size a b) (n:Nat):Below a.heap.size a (b.drewN n):=h.trans ⟨rfl,rfl,rfl,Nat.le_refl _,fun _ _=>rfl⟩
theorem cS (a b c:Int) (w:World) :
    Calls Tryz.prog 51 #[.int .i64 a,.int .i64 b,.int .i64 c] w fun e h=>e=.returned (.bool (inR a b c))∧w=h:=by
  go_enter Tryz.func51,Tryz.ntmps51
  go_wp2
  all_goals go_ret
  · exact⟨fD (Au I).symm,rfl⟩
  · exact⟨fD (oS (Or.inl I)).symm,rfl⟩
theorem cX (a b c:Int) (w:World) :
    Calls Tryz.prog 58 #[.int .i64 a,.int .i64 b,.int .i64 c] w fun e h=>e=.returned (.bool (inR a b c))∧w=h:=by
  go_enter Tryz.func58,Tryz.ntmps58
  go_wp2
  all_goals go_ret
  · exact⟨fD (Au I).symm,rfl⟩
  · exact⟨fD (oS (Or.inl I)).symm,rfl⟩
structure HP where
  foot:Nat→Prop
  holds:World→Prop
def HP.Ok (p:HP):Prop:=∀w w':World,w.heap.size≤w'.heap.size→(∀b,p.foot b→w'.heap[b]? = w.heap[b]?)→p.holds w→p.holds w'
def HP.apart (p q:HP):Prop:=∀b,p.foot b→¬q.foot b
structure Mem (w0:World) (l:List HP) (w:World):Prop where
  bel:Below w0.heap.size w0 w
  holds:∀p∈l,p.holds w
  ok:∀p∈l,p.Ok
  new:∀p∈l,∀b,p.foot b→w0.heap.size≤b∧b<w.heap.size
  apart:l.Pairwise HP.apart
theorem Mem.refl (w:World):Mem w [] w:=⟨Below.refl _ _,AI,AI,AI,.nil⟩
theorem Mem.step {w0 w E:World}{l:List HP}(h:Mem w0 l w) (B:Below w.heap.size w E):Mem w0 l E:=
  ⟨h.bel.trans (B.mono h.bel.size),fun p e=>h.ok p e w E B.size (fun b D=>B.block b (h.new p e b D).2) (h.holds p e),h.ok,
    fun p e b D=>⟨(h.new p e b D).1,Nat.lt_of_lt_of_le (h.new p e b D).2 B.size⟩,h.apart⟩
theorem Mem.drawn {w0 w:World}{l:List HP}(h:Mem w0 l w) (n:Nat):Mem w0 l { w with drawn:=n }:=h.step ⟨rfl,rfl,rfl,Nat.le_refl _,fun _ _=>rfl⟩
theorem Mem.app {w0 w w':World}{l post:List HP}(h:Mem w0 l w) (hp:Mem w post w'):Mem w0 (post++l) w':=by
  have h1:=h.step hp.bel
  refine⟨h1.bel,fun p hm=>?_,fun p hm=>?_,fun p hm b hf=>?_,?_⟩
  · rcases List.mem_append.1 hm with hm | hm
    · exact hp.holds p hm
    · exact h1.holds p hm
  · rcases List.mem_append.1 hm with hm | hm
    · exact hp.ok p hm
    · exact h1.ok p hm
  · rcases List.mem_append.1 hm with hm | hm
    · exact⟨Nat.le_trans h.bel.size (hp.new p hm b hf).1,(hp.new p hm b hf).2⟩
    · exact h1.new p hm b hf
  · rw [List.pairwise_append]
    refine⟨hp.apart,h.apart,fun p hm q hq b hf hg=>?_⟩
    have:=(hp.new p hm b hf).1
    have:=(h.new q hq b hg).2
    omega
theorem Mem.sub {w0 w:World}{l l':List HP}(h:Mem w0 l w) (B:l'.Sublist l):Mem w0 l' w:=
  ⟨h.bel,fun p e=>h.holds p (B.subset e),fun p e=>h.ok p (B.subset e),fun p e=>h.new p (B.subset e),h.apart.sublist B⟩
theorem HP.apart_symm {p q:HP}(h:p.apart q):q.apart p:=fun b e B=>h b B e
theorem Mem.perm {w0 w:World}{l l':List HP}(h:Mem w0 l w) (B:l.Perm l'):Mem w0 l' w:=
  ⟨h.bel,fun p e=>h.holds p (B.mem_iff.2 e),fun p e=>h.ok p (B.mem_iff.2 e),fun p e=>h.new p (B.mem_iff.2 e),(B.pairwise_iff (fun h=>HP.apart_symm h)).1 h.apart⟩
theorem Mem.turn {w0 w w':World}{p p':HP}{l:List HP}(h:Mem w0 (p::l) w) (hos:w'.os=w.os) (htape:w'.tape=w.tape) (hout:w'.output=w.output) (hs:w.heap.size≤w'.heap.size)
    (hk:∀b,b<w.heap.size→¬p.foot b→w'.heap[b]? = w.heap[b]?) (ho:p'.Ok) (hn:∀b,p'.foot b→p.foot b∨w.heap.size≤b) (hl:∀b,p'.foot b→b<w'.heap.size) (hp:p'.holds w'):Mem w0 (p'::l) w':=by
  have hnew:=h.new p (by simp)
  have hap:=List.pairwise_cons.1 h.apart
  refine⟨⟨hos.trans h.bel.os,htape.trans h.bel.tape,hout.trans h.bel.output,Nat.le_trans h.bel.size hs,fun k hkk=>?_⟩,fun q hq=>?_,fun q hq=>?_,fun q hq b hf=>?_,?_⟩
  · rw [hk k (Nat.lt_of_lt_of_le hkk h.bel.size) (fun hf => by have := (hnew k hf).1; omega)]
    exact h.bel.block k hkk
  · rcases List.mem_cons.1 hq with rfl | hq
    · exact hp
    · exact h.ok q (mem_cons_of_mem _ hq) w w' hs (fun b hf=>hk b (h.new q (mem_cons_of_mem _ hq) b hf).2 (fun hpf=>hap.1 q hq b hpf hf)) (h.holds q (mem_cons_of_mem _ hq))
  · rcases List.mem_cons.1 hq with rfl | hq
    · exact ho
    · exact h.ok q (mem_cons_of_mem _ hq)
  · rcases List.mem_cons.1 hq with rfl | hq
    · refine ⟨?_, hl b hf⟩
      rcases hn b hf with h1|h1
      · exact(hnew b h1).1
      · exact Nat.le_trans h.bel.size h1
    · have := h.new q (mem_cons_of_mem _ hq) b hf
      exact⟨this.1,Nat.lt_of_lt_of_le this.2 hs⟩
  · refine List.pairwise_cons.2 ⟨fun q hq b hf hg => ?_, hap.2⟩
    rcases hn b hf with h1|h1
    · exact hap.1 q hq b h1 hg
    · have:=(h.new q (mem_cons_of_mem _ hq) b hg).2;omega
def lk:List (Nat×Value)→Nat→Option Value
  | [],_=>none
  | (d,v)::r,k=>bif Nat.beq d k then some v else lk r k
def ev (env:List (Nat×Value)):Operand→Option Value
  | .tmp t=>lk env t
  | .const v=>some v
  | .global g=>some (.pointer (some ⟨g,0,none⟩))
  | .func f=>some (.func (.func f) #[] #[])
def want (ops:Array Oper) (env:List (Nat×Value)) (g:Option (Nat×Bool)):Option Bool:=
  match g with
  | none=>some true
  | some (j,b)=>match ((ops[j]?).bind (·.dst)).bind (lk env) with
    | some (.bool c)=>some (c==b)
    | some (.tuple _)=>some false
    | _=>none
structure St (N:Nat) (w0:World) (l:List HP) (env:List (Nat×Value)) (a:Act) (w:World):Prop where
  mem:Mem w0 l w
  size:a.tmps.size=N
  defers:a.defers=[]
  env:∀d v,lk env d=some v→a.tmps[d]? = some v
theorem St.eval {N w0 l env a w}(h:St N w0 l env a w) {x:Operand}{v:Value}(e:ev env x=some v):a.eval x=v:=by
  cases x with
  | tmp t=>have:=h.env t v e;simp[Act.eval,this]
  | const v=>simpa [ev,Act.eval] using e
  | global g=>simpa [ev,Act.eval] using e
  | func f=>simpa [ev,Act.eval] using e
theorem St.wanted {N w0 l env a w}(h:St N w0 l env a w) {ops:Array Oper}{o:Oper}{c:Bool}(hw:want ops env o.guard=some c):Region.wanted o (yielded ops a.tmps)=c:=by
  unfold want at hw
  unfold Region.wanted
  split at hw
  · rename_i hg;rw[hg];simpa using hw
  · rename_i j b hg
    rw[hg]
    simp only
    unfold yielded
    generalize (ops[j]?).bind (·.dst)=od at *
    cases od with
    | none=>simp at hw
    | some d=>
      simp only[Option.bind_some] at hw ⊢
      split at hw
      · rename_i c' hl
        rw[h.env d _ hl]
        simp only[Option.some.injEq] at hw
        subst hw
        simp
      · rename_i t hl
        rw[h.env d _ hl]
        simp only[Option.some.injEq] at hw
        subst hw
        simp
      · cases hw
theorem St.put {N w0 l env a w}(h:St N w0 l env a w) {d:Nat}{v:Value}(hd:Nat.blt d N=true) {l' w'}(hm:Mem w0 l' w'):St N w0 l' ((d,v)::env) (a.put (some d) v) w':=by
  have hd':d<a.tmps.size:=by rw[h.size];rw[Nat.blt_eq] at hd;exact hd
  refine⟨hm,?_,h.defers,fun k u hk=>?_⟩
  · simp[Act.put,h.size]
  · unfold lk at hk
    simp only[Act.put]
    by_cases e:d=k
    · subst e
      simp at hk
      subst hk
      simp[hd']
    · have : Nat.beq d k = false := by rw [← Bool.not_eq_true, Nat.beq_eq]; exact e
      rw[this] at hk
      rw[Array.getElem?_setIfInBounds_ne e]
      exact h.env k u hk
theorem St.to {N w0 l env a w}(h:St N w0 l env a w) {l' w'}(e:Mem w0 l' w'):St N w0 l' env a w':=⟨e,h.size,h.defers,h.env⟩
def sub (env' env:List (Nat×Value)):Prop:=∀p∈env',lk env p.1=some p.2
theorem Cv {env:List (Nat×Value)}{d:Nat}{v:Value}(h:lk env d=some v):(d,v)∈env:=by
  induction env with
  | nil=>cases h
  | cons p r ih=>
    obtain⟨k,u⟩:=p
    unfold lk at h
    cases e:Nat.beq k d with
    | true=>rw[e] at h;simp at h;subst h;rw[Nat.eq_of_beq_eq_true e];exact mem_cons_self
    | false=>rw[e] at h;exact mem_cons_of_mem _ (ih h)
theorem aA (env:List (Nat×Value)):sub [] env:=fun p e=>by cases e
theorem sub_cons {env' env:List (Nat×Value)}{d:Nat}{v:Value}(h:lk env d=some v) (B:sub env' env):sub ((d,v)::env') env:=fun p e=>by
  rcases List.mem_cons.1 e with rfl|e
  · exact h
  · exact B p e
theorem sx {env' env:List (Nat×Value)}(d:Nat) {v:Value}(h:lk env d=some v) (e:sub env' env):sub ((d,v)::env') env:=sub_cons h e
theorem St.less {N w0 l env env' l' a w}(h:St N w0 l env a w) (e:sub env' env) (B:l'.Sublist l):St N w0 l' env' a w:=
  ⟨h.mem.sub B,h.size,h.defers,fun d v D=>h.env d v (e _ (Cv D))⟩
abbrev Post:=Exit→Act→World→Prop
def HL (P:Program) (N:Nat) (ops:Array Oper) (w0:World) (l:List HP) (env:List (Nat×Value)) (rest:List Oper) (Q:Post):Prop:=∀a w,St N w0 l env a w→wpList P ops Q rest a w
def HC (P:Program) (N:Nat) (w0:World) (l:List HP) (env:List (Nat×Value)) (c:Code) (Q:Post):Prop:=∀a w,St N w0 l env a w→c.wp P Q a w
def HQ (N:Nat) (w0:World) (l:List HP) (env:List (Nat×Value)) (e:Exit) (Q:Post):Prop:=∀a w,St N w0 l env a w→Q e a w
section
variable {P:Program}{N:Nat}{w0:World}{l l':List HP}{env env':List (Nat×Value)}{Q:Post}{ops:Array Oper}{rest:List Oper}
theorem Kq (c:Code) (e:sub env' env) (B:l'.Sublist l) (h:HC P N w0 l' env' c Q):HC P N w0 l env c Q:=fun a w D=>h a w (D.less e B)
theorem yR (e:sub env' env) (B:l'.Sublist l) (h:HL P N ops w0 l' env' rest Q):HL P N ops w0 l env rest Q:=fun a w D=>h a w (D.less e B)
theorem aG {x y:Code}(h:HC P N w0 l env x (Exit.then (y.wp P Q) Q)):HC P N w0 l env (.seq x y) Q:=fun a w e=>wp_seq (h a w e)
theorem gP (h:HQ N w0 l env .normal Q):HC P N w0 l env .skip Q:=fun a w e=>wp_skip (h a w e)
theorem bB {y:Code}(h:HC P N w0 l env y Q):HQ N w0 l env .normal (Exit.then (y.wp P Q) Q):=h
theorem cW (h:HQ N w0 l env .ret Q):HC P N w0 l env .ret Q:=fun a w e=>wp_ret (h a w e)
theorem bW {i:Nat}(h:HQ N w0 l env (.exit i) Q):HC P N w0 l env (.exit i) Q:=fun a w e=>wp_exit (h a w e)
theorem cK {K:Act→World→Prop}(h:HQ N w0 l env .ret Q):HQ N w0 l env .ret (Exit.then K Q):=h
theorem dE {i:Nat}(h:HQ N w0 l env .ret Q):HQ N w0 l env .ret (Exit.inBlock i Q):=h
theorem dB {i:Nat}{K:Act→World→Prop}(h:HQ N w0 l env (.exit i) Q):HQ N w0 l env (.exit i) (Exit.then K Q):=h
theorem aO {i:Nat}(h:HQ N w0 l env .normal Q):HQ N w0 l env (.exit i) (Exit.inBlock i Q):=fun a w e=>by simp only[Exit.inBlock,if_true];exact h a w e
theorem hZ {i j:Nat}(B:Nat.beq i j=false) (h:HQ N w0 l env (.exit i) Q):HQ N w0 l env (.exit i) (Exit.inBlock j Q):=fun a w D=>by
  have:¬i=j:=fun e=>by subst e;simp at B
  simp only[Exit.inBlock,if_neg this];exact h a w D
theorem cG {i:Nat}(h:HQ N w0 l env .normal Q):HQ N w0 l env .normal (Exit.inBlock i Q):=h
theorem bS {i:Nat}{c:Code}(h:HC P N w0 l env c (Exit.inBlock i Q)):HC P N w0 l env (.block i c) Q:=fun a w e=>wp_block (h a w e)
theorem aR {c:Operand}{x y:Code}(B:ev env c=some (.bool true)) (h:HC P N w0 l env x Q):HC P N w0 l env (.cond c x y) Q:=fun a w e=>wp_cond_true (e.eval B) (h a w e)
theorem aV {c:Operand}{x y:Code}(B:ev env c=some (.bool false)) (h:HC P N w0 l env y Q):HC P N w0 l env (.cond c x y) Q:=fun a w e=>wp_cond_false (e.eval B) (h a w e)
theorem fO {c:Operand}{x y:Code}{b:Bool}(B:ev env c=some (.bool b)) (D:b=true→HC P N w0 l env x Q) (E:b=false→HC P N w0 l env y Q):HC P N w0 l env (.cond c x y) Q:=
  fun a w h=>wp_cond_split (h.eval B) (fun e=>D e a w h) (fun e=>E e a w h)
theorem bP {i:Nat}{os:List Oper}(h:HL P N os.toArray w0 l env os Q):HC P N w0 l env (.region i os.toArray false) Q:=fun a w e=>wp_region_lit (h a w e)
theorem cP (h:HQ N w0 l env .normal Q):HL P N ops w0 l env [] Q:=fun a w e=>wpList_nil (h a w e)
theorem tL {α:Type}{c:Code}(L:α→List HP) (E:α→List (Nat×Value)) (G:α→Prop) (m:α→Nat) (D:α) (U:G D) (X:sub (E D) env) (Y:(L D).Sublist l)
    (B:∀x,G x→HC P N w0 (L x) (E x) c (Exit.then (fun K M=>∃y,G y∧m y<m x∧St N w0 (L y) (E y) K M) Q)):HC P N w0 l env (.loop c) Q:=by
  intro a w Z
  refine wp_loop_ghost (fun n a w=>∃x,G x∧m x=n∧St N w0 (L x) (E x) a w) (m D) ⟨D,U,rfl,Z.less X Y⟩ ?_
  rintro n a w ⟨x,hx,rfl,sx⟩
  refine wp_mono (B x hx a w sx) fun e K M h=>?_
  cases e with
  | normal=>obtain⟨y,hy,J,sy⟩:=h;exact⟨m y,J,y,hy,rfl,sy⟩
  | exit id=>exact h
  | goto l=>exact h
  | ret=>exact h
  | panic ch=>exact h
  | outgrown=>exact h
theorem Ig {o:Oper}{d:Nat}{v:Value}(B:o.dst=some d) (D:Nat.blt d N=true) (E:want ops env o.guard=some true) (e:∀a w,St N w0 l env a w→(execOp a.eval o).run P w=.ok (.value v) w)
    (k:HL P N ops w0 l ((d,v)::env) rest Q):HL P N ops w0 l env (o::rest) Q:=fun a w h=>wpList_step fun K G=>by
  rw[if_pos (h.wanted E)]
  unfold Oper.wp
  rw[e a w h,Oper.upon_value,B]
  exact G _ _ (k _ _ (h.put D h.mem))
theorem Ko {o:Oper}{d:Nat}(h:o.dst=some d) (B:Nat.blt d N=true) (D:want ops env o.guard=some false) (k:HL P N ops w0 l ((d,undef)::env) rest Q):HL P N ops w0 l env (o::rest) Q:=fun a w e=>wpList_step fun K E=>by
  rw[if_neg (by rw[e.wanted D];decide),h]
  exact E _ _ (k _ _ (e.put B e.mem))
theorem mU {o:Oper}(D:o.dst=none) (E:want ops env o.guard=some true)
    (e:∀a w,St N w0 l env a w→∃h,(execOp a.eval o).run P w=.ok .skip h∧Mem w0 l' h) (k:HL P N ops w0 l' env rest Q):HL P N ops w0 l env (o::rest) Q:=fun a w B=>wpList_step fun K G=>by
  rw[if_pos (B.wanted E)]
  unfold Oper.wp
  obtain⟨h,J,M⟩:=e a w B
  rw[J,Oper.upon_skip,D]
  exact G _ _ (k _ _ (B.to M))
theorem El {o:Oper}{d:Nat}{f:FuncId}{xs:Array Operand}{vs:Array Value}(G:o.dst=some d) (J:Nat.blt d N=true) (M:want ops env o.guard=some true)
    (U:∀a:Act,execOp a.eval o=callFunc f (#[]++xs.map a.eval ++ #[])) (D:∀a w,St N w0 l env a w→#[]++xs.map a.eval ++ #[]=vs)
    (X:∀w,(callFunc f vs).run P w=.ok (.enter f vs) w)
    (Y:∀w,Mem w0 l w→Calls P f vs w fun e E=>∃v l',e=.returned v∧Mem w0 l' E∧HL P N ops w0 l' ((d,v)::env) rest Q):HL P N ops w0 l env (o::rest) Q:=fun a w B=>wpList_step fun K Z=>by
  rw[if_pos (B.wanted M)]
  unfold Oper.wp
  rw[U,D a w B,X,Oper.upon_enter]
  refine(Y w B.mem).mono fun e E h=>?_
  obtain⟨v,l',rfl,hm,k⟩:=h
  simp only[G]
  exact Z _ _ (k _ _ (B.put J hm))
end
def boxE (b:Nat) (cs:Array Value) (t:TypeId):HP:=⟨fun k=>k=b,fun w=>w.heap[b]? = some (.cells cs t (0,0))⟩
def rowE (e size:Nat) (v:Value) (n:Nat) (xs:List Value):HP:=⟨fun k=>v.ownBlock=some k,fun w=>w.ownsRow 0 e size v n xs⟩
theorem Ex (b cs t):(boxE b cs t).Ok:=fun w e _ B h=>by show e.heap[b]? = _;rw[B b rfl];exact h
theorem qG (e size v n xs):(rowE e size v n xs).Ok:=fun w E G B h=>by
  refine⟨h.1,?_⟩
  rcases h.2 with D|⟨g,cap,cur,rfl,hB,hgg,rest⟩
  · exact .inl D
  · exact .inr ⟨g,cap,cur,rfl,hB,by rw[B g rfl];exact hgg,rest⟩
theorem Hp {w:World}{B D E e n:Nat}{v:Value}{xs:List Value}(h:w.ownsRow B E e v n xs) (G:∀k,v.ownBlock=some k→D≤k):w.ownsRow D E e v n xs:=by
  refine⟨h.1,?_⟩
  rcases h.2 with J|⟨g,cap,cur,rfl,h1,rest⟩
  · exact .inl J
  · exact .inr ⟨g,cap,cur,rfl,G g rfl,rest⟩
theorem gQ {w:World}{b o:Nat}{cs:Array Value}{t:TypeId}{e:Nat×Nat}(h:w.heap[b]? = some (.cells cs t e)):w.cell? ⟨b,o,none⟩=cs[o]?:=by simp[World.cell?,h]
theorem lU {w:World}{b o:Nat}{cs:Array Value}{t:TypeId}(h:w.heap[b]? = some (.cells cs t (0,0))):w.frozen? ⟨b,o,none⟩=false:=by simp[World.frozen?,h]
theorem cT {l:List HP}{i:Nat}{p:HP}(h:l[i]? = some p):p∈l:=List.mem_of_getElem? h
theorem bA {w0:World}{l:List HP}{b:Nat}{cs:Array Value}{t:TypeId}(i:Nat) (h:l[i]? = some (boxE b cs t)) {o:Nat}{v:Value}(e:cs[o]? = some v):∀w,Mem w0 l w→w.cell? ⟨b,o,none⟩=some v:=fun w B=>
  (gQ (B.holds _ (cT h))).trans e
theorem Mem.alloc {w0 w:World}{l:List HP}(h:Mem w0 l w) (cs:Array Value) (t:TypeId):Mem w0 (boxE w.heap.size cs t::l) (w.alloc (.cells cs t)):=by
  have B:Below w.heap.size w (w.alloc (.cells cs t)):=eO (Below.refl _ _) _
  have:Mem w [boxE w.heap.size cs t] (w.alloc (.cells cs t)):=by
    refine⟨B,?_,?_,?_,AI⟩
    · intro p e;rw[mem_singleton] at e;subst e;exact heap_alloc_new w _
    · intro p e;rw[mem_singleton] at e;subst e;exact Ex _ _ _
    · intro p e b D;rw[mem_singleton] at e;subst e;cases D;rw[gR];omega
  exact h.app this
theorem Mem.newRow {w0 w E:World}{l:List HP}{e B n:Nat}{v:Value}{xs:List Value}(h:Mem w0 l w) (G:E.ownsRow w.heap.size e B v n xs) (J:Below w.heap.size w E):Mem w0 (rowE e B v n xs::l) E:=by
  have:Mem w [rowE e B v n xs] E:=by
    refine⟨J,?_,?_,?_,AI⟩
    · intro p D;rw[mem_singleton] at D;subst D;exact Hp G (fun _ _=>Nat.zero_le _)
    · intro p D;rw[mem_singleton] at D;subst D;exact qG _ _ _ _ _
    · intro p D b K;rw[mem_singleton] at D;subst D;exact G.lt b K
  exact h.app this
theorem uI {l:List HP}{i:Nat}{p p':HP}(e:l[i]? = some p):∃r,l.Perm (p::r)∧(p'::r).Perm (l.set i p'):=by
  induction l generalizing i with
  | nil=>simp at e
  | cons q l ih=>
    cases i with
    | zero=>
      simp at e
      subst e
      exact⟨l,.refl _,.refl _⟩
    | succ i=>
      obtain⟨r,h,B⟩:=ih (i:=i) (by simpa using e)
      exact⟨q::r,(h.cons q).trans (.swap _ _ _),(List.Perm.swap _ _ _).trans (B.cons q)⟩
theorem Mem.turnAt {w0 w e:World}{p p':HP}{l:List HP}{i:Nat}(G:l[i]? = some p) (h:Mem w0 l w) (E:e.os=w.os) (B:e.tape=w.tape) (D:e.output=w.output) (J:w.heap.size≤e.heap.size)
    (K:∀b,b<w.heap.size→¬p.foot b→e.heap[b]? = w.heap[b]?) (M:p'.Ok) (U:∀b,p'.foot b→p.foot b∨w.heap.size≤b) (X:∀b,p'.foot b→b<e.heap.size) (Y:p'.holds e):Mem w0 (l.set i p') e:=by
  obtain⟨r,Z,h2⟩:=uI (p':=p') G
  exact((h.perm Z).turn E B D J K M U X Y).perm h2
theorem Mem.setBox {w0 w:World}{l:List HP}{b:Nat}{cs:Array Value}{t:TypeId}{i:Nat}(hi:l[i]? = some (boxE b cs t)) (h:Mem w0 l w) (o:Nat) (v:Value):Mem w0 (l.set i (boxE b (cs.setIfInBounds o v) t)) (w.setCell ⟨b,o,none⟩ v):=by
  have hb:w.heap[b]? = some (.cells cs t (0,0)):=h.holds _ (cT hi)
  refine h.turnAt hi rfl rfl rfl (by simp[World.setCell]) (fun k _ hf=>Below.heap_setCell w _ v k (fun e=>hf e)) (Ex _ _ _) (fun k hk=>.inl hk) (fun k hk=>?_) ?_
  · cases hk;simp only[World.setCell,Array.size_modify];exact(h.new _ (cT hi) b rfl).2
  · show (w.setCell ⟨b, o, none⟩ v).heap[b]? = _
    exact heap_setCell_same w b o cs t v hb
theorem Mem.setRow {w0 w:World}{l:List HP}{e B n g D:Nat}{xs:List Value}{i:Nat}(E:l[i]? = some (rowE e B (.slice (some ⟨g,0,none⟩) n D) n xs)) (h:Mem w0 l w) (j:Nat) (u:Value):Mem w0 (l.set i (rowE e B (.slice (some ⟨g,0,none⟩) n D) n (xs.set j u))) (w.setCell ⟨g,j,none⟩ u):=by
  have K:w.ownsRow 0 e B (.slice (some ⟨g,0,none⟩) n D) n xs:=h.holds _ (cT E)
  have G:=K.stored j u
  refine h.turnAt E rfl rfl rfl (by simp[World.setCell]) (fun k _ M=>Below.heap_setCell w _ u k (fun e=>M (by subst e;rfl))) (qG _ _ _ _ _) (fun k J=>.inl J) (fun k J=>?_) G.1
  have e:g=k:=by simpa [rowE,Value.ownBlock] using J
  subst e
  have:=(h.new _ (cT E) g rfl).2
  simpa [World.setCell] using this
def RdsW (w:World) (v:Value) (s n:Nat) (cs:List Value):Prop:=
  ∃a cap,v=.slice a n cap∧cs.length=n*s∧(n≤9223372036854775807∧n≤cap)∧(0<n→∃b off,a=some ⟨b,off,none⟩∧∀j u,cs[j]? = some u→w.cell? ⟨b,off+j,none⟩=some u)
def Rd (w0:World) (l:List HP) (v:Value) (s n:Nat) (cs:List Value):Prop:=∀w,Mem w0 l w→RdsW w v s n cs
theorem cI {w:World}{B e size n:Nat}{v:Value}{xs:List Value}(ho:w.ownsRow B e size v n xs):RdsW w v size n xs:=by
  have h1:=ho.1
  rcases ho.2 with⟨rfl,rfl⟩|⟨g,cap,cur,rfl,hB,hgg,hn,hcap,hsz,htk⟩
  · exact⟨_,_,rfl,h1,⟨by omega,by omega⟩,fun h=>absurd h (by omega)⟩
  · refine ⟨_, _, rfl, h1, ⟨by unfold maxLen at hcap; omega, hn⟩, fun _ => ⟨g, 0, rfl, fun j u hj => ?_⟩⟩
    have hlt:j<n*size:=by rw[←h1];exact(List.getElem?_eq_some_iff.1 hj).1
    rw[Nat.zero_add,World.ownsRow.cellAt ⟨h1,.inr ⟨g,cap,cur,rfl,hB,hgg,hn,hcap,hsz,htk⟩⟩ j hlt];exact hj
theorem aB {w0:World}{l:List HP}{e h n:Nat}{v:Value}{xs:List Value}(i:Nat) (B:l[i]? = some (rowE e h v n xs)):Rd w0 l v h n xs:=fun w D=>cI (D.holds _ (cT B))
theorem RdsW.below {w B:World}{v:Value}{s n:Nat}{cs:List Value}(h:RdsW w v s n cs) (G:Below w.heap.size w B):RdsW B v s n cs:=by
  obtain⟨a,e,rfl,J,K,M⟩:=h
  refine⟨a,e,rfl,J,K,fun U=>?_⟩
  obtain⟨b,off,rfl,D⟩:=M U
  exact⟨b,off,rfl,fun j u E=>(G.cell (p:=⟨b,off+j,none⟩) (World.block_lt_of_cell? _ _ (D j u E))).trans (D j u E)⟩
theorem aE {w0:World}{v:Value}{s n:Nat}{cs:List Value}(h:RdsW w0 v s n cs) {l:List HP}:Rd w0 l v s n cs:=fun w e=>h.below e.bel
theorem rS {w0:World}{l:List HP}{a:Option Addr}{e s:Nat}:Rd w0 l (.slice a 0 e) s 0 []:=fun w B=>⟨_,_,rfl,AI,⟨O,O⟩,fun h=>absurd h O⟩
def elP (v:Value) (o:Nat):Value:=match v with | .slice (some ⟨b,off,none⟩) _ _=>.pointer (some ⟨b,off+o,none⟩)|_=>undef
theorem iD {P:Program}{e s:Nat}(h:(P.info? e).map (·.size)=some s) (w:World):(sizeOf e).run P w=.ok s w:=by
  obtain⟨i,B,rfl⟩:=Option.map_eq_some_iff.1 h
  simp[sizeOf,typeInfo,B]
def aggB (P:Program) (t:TypeId):Option Bool:=match P.underlying t with|some (.struct _)=>some true|some (.array _ _)=>some true|some _=>some false|none=>none
theorem qF {P:Program}{t:TypeId}{c:Bool}(h:aggB P t=some c) (w:World):(isAgg t).run P w=.ok c w:=by
  unfold aggB at h
  unfold isAgg
  cases hu:P.underlying t with
  | none=>rw[hu] at h;cases h
  | some d=>rw[hu] at h;cases d<;>simp_all [run_underlying hu]
def fieldOff (P:Program) (t:TypeId) (f:Nat):Option Nat:=match P.underlying t with
  | some (.struct fs)=>match fs[f]? with
    | some fd=>match P.info? fd.type with|some i=>bif Nat.beq i.size 0 then none else some fd.offset|none=>none
    | none=>none
  | _=>none
theorem iY (b o k:Nat):(⟨b,o,none⟩:Addr).add k=⟨b,o+k,none⟩:=by unfold Addr.add;split<;>simp_all
theorem wO {P:Program}{t:TypeId}{f off:Nat}(h:fieldOff P t f=some off) (b o:Nat) (w:World):(Instr.fieldAt t (.pointer (some ⟨b,o,none⟩)) f).run P w=.ok (.pointer (some ⟨b,o+off,none⟩)) w:=by
  unfold fieldOff at h
  cases hu:P.underlying t with
  | none=>rw[hu] at h;cases h
  | some d=>
    rw[hu] at h
    cases d<;>simp only at h<;>try (cases h;done)
    rename_i fs
    cases hf:fs[f]? with
    | none=>rw[hf] at h;cases h
    | some fd=>
      rw[hf] at h
      simp only at h
      cases hi:P.info? fd.type with
      | none=>rw[hi] at h;cases h
      | some i=>
        rw[hi] at h
        simp only at h
        cases hz:Nat.beq i.size 0 with
        | true=>rw[hz] at h;cases h
        | false=>
          rw[hz] at h
          simp at h
          subst h
          have B:¬i.size=0:=fun e=>by rw[e] at hz;cases hz
          have D:(sizeOf fd.type).run P w=.ok i.size w:=iD (by rw[hi];rfl) w
          simp[Instr.fieldAt,run_underlying hu,hf,Instr.sureAddr,fieldPlace,D,B,iY]
section
variable {P:Program}{N:Nat}{w0:World}{l l':List HP}{env env':List (Nat×Value)}{Q:Post}{ops:Array Oper}{rest:List Oper}{o:Oper}{d:Nat}
def evOp (env:List (Nat×Value)):Op→Option Value
  | .move x=>ev env x
  | .assign x=>ev env x
  | .pick c a b=>match ev env c with|some (.bool true)=>ev env a|some (.bool false)=>ev env b|_=>none
  | .unOp .not _ x=>match ev env x with|some (.bool b)=>some (.bool !b)|_=>none
  | .extract t i=>match ev env t with|some (.tuple vs)=>vs[i]? | _=>none
  | _=>none
def RunV (P:Program) (N:Nat) (w0:World) (l:List HP) (env:List (Nat×Value)) (o:Oper) (v:Value):Prop:=∀a w,St N w0 l env a w→(execOp a.eval o).run P w=.ok (.value v) w
theorem kC {v:Value}(e:o.dst=some d) (B:Nat.blt d N=true) (D:want ops env o.guard=some true) (h:RunV P N w0 l env o v) (k:HL P N ops w0 l ((d,v)::env) rest Q):HL P N ops w0 l env (o::rest) Q:=Ig e B D h k
theorem Hi {a w}(e:St N w0 l env a w) {v:Value}(h:evOp env o.op=some v):(execOp a.eval o).run P w=.ok (.value v) w:=by
  obtain⟨dst,op,ty,pos,B,D⟩:=o
  simp only at h
  cases op<;>simp only[evOp] at h<;>try (cases h;done)
  case move x=>simp[execOp,e.eval h]
  case assign x=>simp[execOp,e.eval h]
  case pick c x y=>
    split at h
    · rename_i hc;simp[execOp,e.eval hc,asBool,e.eval h]
    · rename_i hc;simp[execOp,e.eval hc,asBool,e.eval h]
    · cases h
  case unOp u t x=>
    cases u<;>simp only[evOp] at h<;>try (cases h;done)
    split at h
    · rename_i hc;cases h;simp[execOp,e.eval hc,Op.unary]
    · cases h
  case extract t i=>
    split at h
    · rename_i vs hc;simp[execOp,e.eval hc,Instr.extract,h]
    · cases h
theorem aU {v:Value}(h:evOp env o.op=some v):RunV P N w0 l env o (v):=fun a w e=>Hi e h
theorem rQ {a w}(h:St N w0 l env a w) {op:BinOp}{t B:TypeId}{x y:Operand}{m n r:Int}(D:o.op=.binOp op t x y B) (E:ev env x=some (.int .i64 m)) (G:ev env y=some (.int .i64 n))
    (e:(op=.add∧IntKind.i64.wrap (m+n)=r)∨(op=.sub∧IntKind.i64.wrap (m-n)=r)∨(op=.mul∧IntKind.i64.wrap (m*n)=r)):(execOp a.eval o).run P w=.ok (.value (.int .i64 r)) w:=by
  rcases e with⟨rfl,rfl⟩|⟨rfl,rfl⟩|⟨rfl,rfl⟩<;>simp[execOp,D,h.eval E,h.eval G,eqGuard,binOp,Op.intArith]
theorem pF {t e:TypeId}{x y:Operand}{m n:Int}(h:o.op=.binOp .add t x y e) (B:ev env x=some (.int .i64 m)) (D:ev env y=some (.int .i64 n))
    (E : -9223372036854775808≤m+n∧m+n≤9223372036854775807):RunV P N w0 l env o (.int .i64 (m+n)):=fun a w G=>rQ G h B D (.inl ⟨rfl,IntWalk.i64_in _ E⟩)
theorem nQ {t e:TypeId}{x y:Operand}{m n:Int}(h:o.op=.binOp .sub t x y e) (B:ev env x=some (.int .i64 m)) (D:ev env y=some (.int .i64 n))
    (E : -9223372036854775808≤m-n∧m-n≤9223372036854775807):RunV P N w0 l env o (.int .i64 (m-n)):=fun a w G=>rQ G h B D (.inr (.inl ⟨rfl,IntWalk.i64_in _ E⟩))
theorem eZ {t e:TypeId}{x y:Operand}{m n:Int}(h:o.op=.binOp .mul t x y e) (B:ev env x=some (.int .i64 m)) (D:ev env y=some (.int .i64 n))
    (E : -9223372036854775808≤m*n∧m*n≤9223372036854775807):RunV P N w0 l env o (.int .i64 (m*n)):=fun a w G=>rQ G h B D (.inr (.inr ⟨rfl,IntWalk.i64_in _ E⟩))
theorem gD {t D:TypeId}{x y:Operand}{m n:Int}(E:o.op=.binOp .quo t x y D) (G:ev env x=some (.int .i64 m)) (J:ev env y=some (.int .i64 n))
    (K:0≤m∧m≤9223372036854775807∧1≤n):RunV P N w0 l env o (.int .i64 (m / n)):=fun a w B=>by
    have h:¬n=0:=O
    have e:=IntWalk.i64_quo m n K
    simp[execOp,E,B.eval G,B.eval J,eqGuard,binOp,Op.intDiv,h,e]
theorem xU {t D:TypeId}{x y:Operand}{m n:Int}(E:o.op=.binOp .quo t x y D) (G:ev env x=some (.int .i64 m)) (J:ev env y=some (.int .i64 n))
    (K : -9223372036854775808≤m∧m≤9223372036854775807∧1≤n):RunV P N w0 l env o (.int .i64 (m.tdiv n)):=fun a w B=>by
    have h:¬n=0:=O
    have e:=IntWalk.i64_quo' m n K
    simp[execOp,E,B.eval G,B.eval J,eqGuard,binOp,Op.intDiv,h,e]
theorem fT {t E:TypeId}{x y:Operand}{m n:Int}(G:o.op=.binOp .rem t x y E) (J:ev env x=some (.int .i64 m)) (K:ev env y=some (.int .i64 n))
    (B:0≤m∧n≠0):RunV P N w0 l env o (.int .i64 (m % n)):=fun a w D=>by
    have h:¬n=0:=B.2
    have e:=IntWalk.rem_in m n B.1
    simp[execOp,G,D.eval J,D.eval K,eqGuard,binOp,Op.intDiv,h,e]
theorem xT {t h:TypeId}{x y:Operand}{m n:Int}(B:o.op=.binOp .rem t x y h) (D:ev env x=some (.int .i64 m)) (E:ev env y=some (.int .i64 n))
    (G:n≠0):RunV P N w0 l env o (.int .i64 (m.tmod n)):=fun a w e=>by simp[execOp,B,e.eval D,e.eval E,eqGuard,binOp,Op.intDiv,G]
theorem jU {op:BinOp}{t B:TypeId}{x y:Operand}{m n:Int}(D:o.op=.binOp op t x y B) (e:op=.and∨op=.or∨op=.xor∨op=.andNot)
    (E:ev env x=some (.int .i64 m)) (G:ev env y=some (.int .i64 n)) {r:Int}(J:bits op .i64 m n=r):RunV P N w0 l env o (.int .i64 r):=fun a w h=>by
    subst J
    rcases e with rfl|rfl|rfl|rfl<;>(simp[execOp,D,h.eval E,h.eval G,eqGuard,binOp];rfl)
theorem rv_shr {t h:TypeId}{x y:Operand}{kk:IntKind}{m n:Int}(B:o.op=.binOp .shr t x y h) (D:ev env x=some (.int .i64 m)) (E:ev env y=some (.int kk n))
    (M:0≤n∧n≤64):RunV P N w0 l env o (.int .i64 (m / 2 ^ n.toNat)):=fun a w e=>by
    have G:¬n<0:=O
    have J:min n.toNat IntKind.i64.bits=n.toNat:=by have:IntKind.i64.bits=64:=rfl;omega
    have K:m.fdiv (2 ^ n.toNat)=m / 2 ^ n.toNat:=Int.fdiv_eq_ediv_of_nonneg _ (Int.pow_nonneg V)
    simp[execOp,B,e.eval D,e.eval E,eqGuard,binOp,Op.shift,G,J,K]
def cmpOp:BinOp→Int→Int→Option Bool
  | .lss,m,n=>some (decide (m<n))
  | .leq,m,n=>some (decide (m≤n))
  | .gtr,m,n=>some (decide (n<m))
  | .geq,m,n=>some (decide (n≤m))
  | .eql,m,n=>some (m==n)
  | .neq,m,n=>some (m != n)
  | _,_,_=>none
theorem jA {op:BinOp}{t B:TypeId}{x y:Operand}{m n:Int}{c:Bool}{kk:IntKind}(D:o.op=.binOp op t x y B) (E:ev env x=some (.int kk m)) (G:ev env y=some (.int kk n))
    (e:cmpOp op m n=some c):RunV P N w0 l env o (.bool c):=fun a w h=>by
    cases op<;>simp only[cmpOp,Option.some.injEq] at e<;>(first|(cases e;done)|(subst e;simp[execOp,D,h.eval E,h.eval G,eqGuard,binOp,Op.intCmp,GT.gt,GE.ge]))
theorem bD {c:Bool}(e:c=true→HL P N ops w0 l ((d,.bool true)::env) rest Q) (h:c=false→HL P N ops w0 l ((d,.bool false)::env) rest Q):HL P N ops w0 l ((d,.bool c)::env) rest Q:=by
  cases c
  · exact h rfl
  · exact e rfl
theorem aW {t e:TypeId}{x y:Operand}{m n:Int}{kk:IntKind}(B:o.dst=some d) (D:Nat.blt d N=true) (E:want ops env o.guard=some true) (G:o.op=.binOp .lss t x y e) (J:ev env x=some (.int kk m)) (K:ev env y=some (.int kk n))
    (M:m<n→HL P N ops w0 l ((d,.bool true)::env) rest Q) (U:n≤m→HL P N ops w0 l ((d,.bool false)::env) rest Q):HL P N ops w0 l env (o::rest) Q:=
  kC B D E (jA G J K rfl) (bD (fun h=>M (of_decide_eq_true h)) (fun h=>U (by have:=of_decide_eq_false h;omega)))
theorem iA {t e:TypeId}{x y:Operand}{m n:Int}{kk:IntKind}(B:o.dst=some d) (D:Nat.blt d N=true) (E:want ops env o.guard=some true) (G:o.op=.binOp .leq t x y e) (J:ev env x=some (.int kk m)) (K:ev env y=some (.int kk n))
    (M:m≤n→HL P N ops w0 l ((d,.bool true)::env) rest Q) (U:n<m→HL P N ops w0 l ((d,.bool false)::env) rest Q):HL P N ops w0 l env (o::rest) Q:=
  kC B D E (jA G J K rfl) (bD (fun h=>M (of_decide_eq_true h)) (fun h=>U (by have:=of_decide_eq_false h;omega)))
theorem fJ {t e:TypeId}{x y:Operand}{m n:Int}{kk:IntKind}(B:o.dst=some d) (D:Nat.blt d N=true) (E:want ops env o.guard=some true) (G:o.op=.binOp .gtr t x y e) (J:ev env x=some (.int kk m)) (K:ev env y=some (.int kk n))
    (M:n<m→HL P N ops w0 l ((d,.bool true)::env) rest Q) (U:m≤n→HL P N ops w0 l ((d,.bool false)::env) rest Q):HL P N ops w0 l env (o::rest) Q:=
  kC B D E (jA G J K rfl) (bD (fun h=>M (of_decide_eq_true h)) (fun h=>U (by have:=of_decide_eq_false h;omega)))
theorem eK {t e:TypeId}{x y:Operand}{m n:Int}{kk:IntKind}(B:o.dst=some d) (D:Nat.blt d N=true) (E:want ops env o.guard=some true) (G:o.op=.binOp .geq t x y e) (J:ev env x=some (.int kk m)) (K:ev env y=some (.int kk n))
    (M:n≤m→HL P N ops w0 l ((d,.bool true)::env) rest Q) (U:m<n→HL P N ops w0 l ((d,.bool false)::env) rest Q):HL P N ops w0 l env (o::rest) Q:=
  kC B D E (jA G J K rfl) (bD (fun h=>M (of_decide_eq_true h)) (fun h=>U (by have:=of_decide_eq_false h;omega)))
theorem bZ {t e:TypeId}{x y:Operand}{m n:Int}{kk:IntKind}(B:o.dst=some d) (D:Nat.blt d N=true) (E:want ops env o.guard=some true) (G:o.op=.binOp .eql t x y e) (J:ev env x=some (.int kk m)) (K:ev env y=some (.int kk n))
    (M:m=n→HL P N ops w0 l ((d,.bool true)::env) rest Q) (U:m≠n→HL P N ops w0 l ((d,.bool false)::env) rest Q):HL P N ops w0 l env (o::rest) Q:=
  kC B D E (jA G J K rfl) (bD (fun h=>M (beq_iff_eq.1 h)) (fun h=>U (beq_eq_false_iff_ne.1 h)))
theorem jY {t e:TypeId}{x y:Operand}{m n:Int}{kk:IntKind}(B:o.dst=some d) (D:Nat.blt d N=true) (E:want ops env o.guard=some true) (G:o.op=.binOp .neq t x y e) (J:ev env x=some (.int kk m)) (K:ev env y=some (.int kk n))
    (M:m≠n→HL P N ops w0 l ((d,.bool true)::env) rest Q) (U:m=n→HL P N ops w0 l ((d,.bool false)::env) rest Q):HL P N ops w0 l env (o::rest) Q:=
  kC B D E (jA G J K rfl) (bD (fun h=>M (bne_iff_ne.1 h)) (fun h=>U (by simpa using h)))
end
section
variable {P:Program}{N:Nat}{w0:World}{l l':List HP}{env env':List (Nat×Value)}{Q:Post}{ops:Array Oper}{rest:List Oper}{o:Oper}{d:Nat}
def RunQ (P:Program) (N:Nat) (w0:World) (l:List HP) (env:List (Nat×Value)) (o:Oper) (R:Value→List HP→Prop):Prop:=
  ∀a w,St N w0 l env a w→∀(Q:Post) (K:Act→World→Prop),(∀v post w',R v post→Mem w post w'→K (a.put o.dst v) w')→o.wp P a w K Q
theorem aK {v:Value}(h:RunV P N w0 l env o v):RunQ P N w0 l env o (fun e post=>e=v∧post=[]):=fun a w B Q K D=>by
  unfold Oper.wp
  rw[h a w B,Oper.upon_value]
  exact D _ _ _ ⟨rfl,rfl⟩ (Mem.refl w)
theorem dM {R R':Value→List HP→Prop}(h:RunQ P N w0 l env o R) (e:∀v post,R v post→R' v post):RunQ P N w0 l env o R':=fun a w B Q K D=>h a w B Q K fun v post E G J=>D v post E (e _ _ G) J
theorem bC {R:Value→List HP→Prop}(e:sub env' env) (B:l'.Sublist l) (h:RunQ P N w0 l' env' o R):RunQ P N w0 l env o R:=fun a w D=>h a w (D.less e B)
theorem fF {R:Value→List HP→Prop}(B:o.dst=some d) (D:Nat.blt d N=true) (E:want ops env o.guard=some true) (h:RunQ P N w0 l env o R) (k:∀v post,R v post→HL P N ops w0 (post++l) ((d,v)::env) rest Q):HL P N ops w0 l env (o::rest) Q:=fun a w e=>wpList_step fun K G=>by
  rw[if_pos (e.wanted E)]
  refine h a w e Q K fun v post U J M=>?_
  rw[B]
  exact G _ _ (k v post J _ _ (e.put D (e.mem.app M)))
theorem wP {R:Value→List HP→Prop}(h:∀a w,St N w0 l env a w→∃v post e,(execOp a.eval o).run P w=.ok (.value v) e∧R v post∧Mem w post e):RunQ P N w0 l env o R:=fun a w B Q K D=>by
  unfold Oper.wp
  obtain⟨v,post,e,E,G,J⟩:=h a w B
  rw[E,Oper.upon_value]
  exact D _ _ _ G J
theorem Ef (w:World) (cs:Array Value) (t:TypeId):Mem w [boxE w.heap.size cs t] (w.alloc (.cells cs t)):=(Mem.refl w).alloc cs t
theorem qE {t:TypeId}{x:Operand}{f b off k0:Nat}(e:o.op=.fieldAddr t x f) (h:fieldOff P t f=some k0) (B:ev env x=some (.pointer (some ⟨b,off,none⟩))):RunV P N w0 l env o (.pointer (some ⟨b,off+k0,none⟩)):=
  fun a w D=>by simp[execOp,e,D.eval B,wO h]
theorem jM {x:Operand}{e:Addr}(h:o.op=.nilCheck x) (B:ev env x=some (.pointer (some e))):RunV P N w0 l env o (.pointer (some e)):=
  fun a w D=>by simp[execOp,h,D.eval B]
theorem kT {t e s n:Nat}{cs:List Value}{v:Value}{x i:Operand}{m:Int}{kk:IntKind}(G:o.op=.indexAddr t x i) (E:P.underlying t=some (.slice e)) (J:(P.info? e).map (·.size)=some s)
    (K:ev env x=some v) (M:ev env i=some (.int kk m)) (U:Rd w0 l v s n cs) (X:0≤m) (Y:m<n):RunV P N w0 l env o (elP v (m.toNat*s)):=fun a w h=>by
  obtain⟨ad,Z,rfl,hl,hn,B⟩:=U w h.mem
  obtain⟨b,off,rfl,hc⟩:=B O
  have he:P.underlying t=some (.slice (P.elem t)):=by simp[Program.elem,E]
  have D:P.elem t=e:=by simp[Program.elem,E]
  simp[execOp,G,h.eval K,h.eval M,run_indexAt_slice w t _ _ _ _ _ he,X,Y,D,iD J,iY,elP]
theorem bR {t:TypeId}{x:Operand}{f k0 s n h:Nat}{v:Value}{cs:List Value}(D:o.op=.fieldAddr t x f) (E:fieldOff P t f=some k0) (G:ev env x=some (elP v h)) (J:Rd w0 l v s n cs) (K:0<n):RunV P N w0 l env o (elP v (h+k0)):=fun a w B=>by
  obtain⟨U,M,rfl,X,_,e⟩:=J w B.mem
  obtain⟨b,off,rfl,Y⟩:=e K
  simp[execOp,D,B.eval G,elP,wO E,Nat.add_assoc]
theorem kM {b off:Nat}{w:World}:∀(n i:Nat) (cs:List Value) (e:Array Value),cs.length=n→(∀j u,cs[j]? = some u→w.cell? ⟨b,off+i+j,none⟩=some u)→(loadCellsFrom ⟨b,off,none⟩ i n e).run P w=.ok (e++cs.toArray) w
  | 0,i,cs,e,hl,h=>by
    have:cs=[]:=List.length_eq_zero_iff.1 hl
    subst this
    simp[loadCellsFrom]
  | n+1,i,[],e,hl,h=>by simp at hl
  | n+1,i,c::cs,e,hl,h=>by
    have B:=h 0 c rfl
    have D:(load (⟨b,off+i,none⟩:Addr)).run P w=.ok c w:=by simp[run_load,Nat.add_zero] at B ⊢;simp[B]
    have ih:=kM (b:=b) (off:=off) (w:=w) n (i+1) cs (e.push c) (by simpa using hl) (fun j u E=>by have:=h (j+1) u (by simpa using E);rw[show off+(i+1)+j=off+i+(j+1) by omega];exact this)
    simp only[loadCellsFrom,Sem.run_bind,iY,D,Result.andThen_ok,ih]
    simp
theorem bJ {t b off:Nat}{x:Operand}{v:Value}(h:o.op=.load t x) (B:aggB P t=some false) (D:ev env x=some (.pointer (some ⟨b,off,none⟩)))
    (E:∀w,Mem w0 l w→w.cell? ⟨b,off,none⟩=some v):RunV P N w0 l env o v:=fun a w e=>by
  have G:(load (⟨b,off,none⟩:Addr)).run P w=.ok v w:=by simp[run_load,E w e.mem]
  simp only[execOp,h,e.eval D,Instr.loadAt,Instr.sureAddr,loadVar,Sem.run_bind,Sem.run_pure,qF B,Result.andThen_ok,Bool.false_eq_true,if_false,G]
theorem aP {t b off s:Nat}{x:Operand}{cs:List Value}(B:o.op=.load t x) (D:aggB P t=some true) (E:(P.info? t).map (·.size)=some s) (G:ev env x=some (.pointer (some ⟨b,off,none⟩)))
    (J:cs.length=s) (K:∀w,Mem w0 l w→∀j u,cs[j]? = some u→w.cell? ⟨b,off+j,none⟩=some u):RunV P N w0 l env o (.agg cs.toArray):=fun a w e=>by
  have h:=kM (P:=P) (b:=b) (off:=off) (w:=w) s 0 cs #[] J (fun j u M=>K w e.mem j u M)
  simp at h
  simp[execOp,B,e.eval G,Instr.loadAt,Instr.sureAddr,loadVar,qF D,iD E,loadCells,h]
theorem aL {t s n e:Nat}{x:Operand}{v u:Value}{cs:List Value}(J:o.op=.load t x) (K:aggB P t=some false) (M:ev env x=some (elP v e)) (U:Rd w0 l v s n cs) (E:cs[e]? = some u):RunV P N w0 l env o u:=fun a w G=>by
  obtain⟨ad,X,rfl,hl,_,B⟩:=U w G.mem
  have Y:e<cs.length:=(List.getElem?_eq_some_iff.1 E).1
  obtain⟨b,off,rfl,D⟩:=B (by rcases Nat.eq_zero_or_pos n with h|h;(subst h;omega);exact h)
  have Z:(load (⟨b,off+e,none⟩:Addr)).run P w=.ok u w:=by simp[run_load,D e u E]
  simp only[execOp,J,G.eval M,elP,Instr.loadAt,Instr.sureAddr,loadVar,Sem.run_bind,Sem.run_pure,qF K,Result.andThen_ok,Bool.false_eq_true,if_false,Z]
theorem cO {t s e n h:Nat}{x:Operand}{v:Value}{us cs:List Value}(J:o.op=.load t x) (K:aggB P t=some true) (M:(P.info? t).map (·.size)=some e) (U:ev env x=some (elP v h)) (X:Rd w0 l v s n cs) (Y:0<n)
    (Z:us.length=e) (hc:∀j u,us[j]? = some u→cs[h+j]? = some u):RunV P N w0 l env o (.agg us.toArray):=fun a w E=>by
  obtain⟨ad,a0,rfl,a1,_,B⟩:=X w E.mem
  obtain⟨b,off,rfl,D⟩:=B Y
  have G:=kM (P:=P) (b:=b) (off:=off+h) (w:=w) e 0 us #[] Z (fun j u hj=>by have:=D _ u (hc j u hj);rw[Nat.add_zero,Nat.add_assoc];exact this)
  simp at G
  simp[execOp,J,E.eval U,elP,Instr.loadAt,Instr.sureAddr,loadVar,qF K,iD M,loadCells,G]
def IsBox (cs:Array Value) (t:TypeId) (v:Value) (post:List HP):Prop:=∃b,v=.pointer (some ⟨b,0,none⟩)∧post=[boxE b cs t]
theorem cE {t:TypeId}{x:Operand}{v:Value}(e:o.op=.box t x) (h:ev env x=some v):RunQ P N w0 l env o (IsBox v.cells t):=wP fun a w B=>
  ⟨.pointer (some ⟨w.heap.size,0,none⟩),_,w.alloc (.cells v.cells t),by simp[execOp,e,B.eval h,Instr.box,newVar,newRow],⟨_,rfl,rfl⟩,Ef w _ _⟩
theorem bY {t:TypeId}{z:Value}(h:o.op=.alloc t) (e:(P.info? t).bind (·.zero)=some z):RunQ P N w0 l env o (IsBox z.cells t):=wP fun a w D=>by
  obtain⟨i,B,e⟩:=Option.bind_eq_some_iff.1 e
  exact⟨.pointer (some ⟨w.heap.size,0,none⟩),_,w.alloc (.cells z.cells t),by simp[execOp,h,Instr.alloc,zeroValue,typeInfo,B,e,newVar,newRow],⟨_,rfl,rfl⟩,Ef w _ _⟩
theorem yU {a w} (st : St N w0 l env a w) : ∀ (ps : List (Nat × Operand)) (vs : List (Nat × Value)), ps.mapM (fun p => (ev env p.2).map fun v => (p.1, v)) = some vs → ps.map (fun p => (p.1, a.eval p.2)) = vs
  | [],vs,h=>by simp at h;subst h;rfl
  | p::ps,vs,h=>by
    simp only[List.mapM_cons,Option.bind_eq_bind,Option.pure_def] at h
    cases hp:ev env p.2 with
    | none=>rw[hp] at h;simp at h
    | some v=>
      cases hr:ps.mapM (fun p=>(ev env p.2).map fun v=>(p.1,v)) with
      | none=>rw[hp,hr] at h;simp at h
      | some r=>
        rw[hp,hr] at h
        simp at h
        subst h
        simp[yU st ps r hr,st.eval hp]
theorem dG {t:TypeId}{ps:Array (Nat×Operand)}{vs:List (Nat×Value)}{cs:Array Value}(e:o.op=.build t ps)
    (h:ps.toList.mapM (fun p=>(ev env p.2).map fun v=>(p.1,v))=some vs) (B:P.built t vs=some cs):RunV P N w0 l env o (.agg cs):=fun a w D=>by
  have E:=yU D _ _ h
  have G:(ps.map fun (p:Nat×Operand)=>(p.1,a.eval p.2)).toList=vs:=by simpa using E
  simp[execOp,e,run_build w t (ps.map fun (p:Nat×Operand)=>(p.1,a.eval p.2)) cs (by rw[G];exact B)]
theorem Bj {t e n:Nat}{vs:Array (Nat×Value)}(h:P.underlying t=some (.slice e)) (B:(P.info? e).map (·.size)=some n) (w:World):(Instr.buildSlice t 0 #[]).run P w=.ok (.slice (some ⟨w.heap.size,0,none⟩) 0 0) (w.alloc (.cells #[] e)):=by
  simp[Instr.buildSlice,run_underlying h,iD B,Instr.fill,newRow]
  congr 2
  apply Array.eq_empty_of_size_eq_zero;simp
def IsRow (e s n:Nat) (cs:List Value) (v:Value) (post:List HP):Prop:=∃b,v=.slice (some ⟨b,0,none⟩) n n∧post=[rowE e s v n cs]
theorem yH {w B:World}{e s n:Nat}{v:Value}{cs:List Value}(h:B.ownsRow w.heap.size e s v n cs) (D:Below w.heap.size w B):Mem w [rowE e s v n cs] B:=(Mem.refl w).newRow h D
theorem bU {t e s:Nat}(h:o.op=.buildSlice t 0 #[]) (B:P.underlying t=some (.slice e)) (D:(P.info? e).map (·.size)=some s):RunQ P N w0 l env o (IsRow e s 0 []):=wP fun a w E=>
  ⟨.slice (some ⟨w.heap.size,0,none⟩) 0 0,_,w.alloc (.cells #[] e),by have:=Bj (P:=P) (vs:=#[]) B D w;simp[execOp,h,this],⟨_,rfl,rfl⟩,
    yH (World.ownsRow_made w #[] 0 (Nat.le_refl _) V AI) (eO (Below.refl _ _) _)⟩
theorem aH {t e h s:Nat}{ps:Array (Nat×Operand)}{vs:List (Nat×Value)}{cs:List Value}{z:Value}(M:o.op=.buildSlice t h ps) (U:P.underlying t=some (.slice e))
    (X:(P.info? e).map (fun i=>(i.zero,i.size))=some (some z,s)) (B:(0<h*s∧h*s≤1000000)∧h≤1000000)
    (Y:ps.toList.mapM (fun p=>(ev env p.2).map fun v=>(p.1,v))=some vs) (Z:(Instr.fill (fun i=>some (i*s,s)) ((Array.range (h*s)).map (z.cells[· % z.cells.size]!)) vs).map (·.toList)=some cs) (D:cs.length=h*s):RunQ P N w0 l env o (IsRow e s h cs):=wP fun a w st=>by
  obtain⟨i,E,K⟩:=Option.map_eq_some_iff.1 X
  simp only[Prod.mk.injEq] at K
  obtain⟨hz,rfl⟩:=K
  obtain⟨G,J,rfl⟩:=Option.map_eq_some_iff.1 Z
  have h1:=yU st _ _ Y
  have h2:(ps.map fun (p:Nat×Operand)=>(p.1,a.eval p.2)).toList=vs:=by simpa using h1
  have:=run_buildSlice (P:=P) w t e h (ps.map fun (p:Nat×Operand)=>(p.1,a.eval p.2)) G i z U E hz (by have:=B.1.2;omega) (by have:=B.1.1;omega) (by rw[h2];exact J)
  refine⟨.slice (some ⟨w.heap.size,0,none⟩) h h,_,w.alloc (.cells G e),by simp[execOp,M,this],⟨_,rfl,rfl⟩,yH ?_ (eO (Below.refl _ _) _)⟩
  refine⟨D,.inr ⟨w.heap.size,h,G,rfl,Nat.le_refl _,heap_alloc_new w _,Nat.le_refl _,by unfold maxLen;omega,by simpa using D,?_⟩⟩
  rw[List.take_of_length_le (by rw[D];exact Nat.le_refl _)]
theorem fB {t e s bytes n:Nat}{x y:Operand}{z:Value}{cs:List Value}(K:o.op=.makeSlice t x y) (M:P.underlying t=some (.slice e))
    (B:(P.info? e).map (fun i=>(i.zero,i.size,i.bytes))=some (some z,s,bytes)) (U:bytes≤1000) {m m':Int}(X:ev env x=some (.int .i64 m)) (Y:ev env y=some (.int .i64 m')) (Z:m=(n:Int)) (D:m'=(n:Int)) (hn:n≤100000000000) (E:(madeCells z.cells (n*s)).toList=cs):RunQ P N w0 l env o (IsRow e s n cs):=wP fun a w J=>by
  obtain⟨i,B,hz,hs,G⟩:=info_parts B
  subst Z D E
  obtain⟨w',h,r1,r2⟩:=run_make_full (P:=P) w w.heap.size t e i z s M B hz hs .i64 .i64 n (by rw[G];have:=Nat.mul_le_mul U hn;omega) (by unfold maxLen;omega) (Nat.le_refl _)
  exact⟨.slice (some ⟨w.heap.size,0,none⟩) n n,_,w',by simp[execOp,K,J.eval X,J.eval Y,h],⟨_,rfl,rfl⟩,yH r1 ((Below.refl _ _).grown r2 (Nat.le_refl _) AI)⟩
theorem hl_box {cs:Array Value}{t:TypeId}(e:o.dst=some d) (B:Nat.blt d N=true) (D:want ops env o.guard=some true) (h:RunQ P N w0 l env o (IsBox cs t)) (k:∀b,HL P N ops w0 (boxE b cs t::l) ((d,.pointer (some ⟨b,0,none⟩))::env) rest Q):HL P N ops w0 l env (o::rest) Q:=
  fF e B D h fun v post E=>by obtain⟨b,rfl,rfl⟩:=E;exact k b
theorem Ih {e s n:Nat}{cs:List Value}(B:o.dst=some d) (D:Nat.blt d N=true) (E:want ops env o.guard=some true) (h:RunQ P N w0 l env o (IsRow e s n cs)) (k:∀b,HL P N ops w0 (rowE e s (.slice (some ⟨b,0,none⟩) n n) n cs::l) ((d,.slice (some ⟨b,0,none⟩) n n)::env) rest Q):HL P N ops w0 l env (o::rest) Q:=
  fF B D E h fun v post G=>by obtain⟨b,rfl,rfl⟩:=G;exact k b
theorem uA {t b off:Nat}{v:Value}{w:World}(D:(P.info? t).map (·.size)=some 1) (B:v.oneCell'=true) (E:(w.cell? ⟨b,off,none⟩).isSome=true) (G:w.frozen? ⟨b,off,none⟩=false) :
    (Instr.storeAt t (.pointer (some ⟨b,off,none⟩)) v).run P w=.ok () (w.setCell ⟨b,off,none⟩ v):=by
  have h:v.cells=#[v]:=by cases v<;>first|rfl|(cases B;done)
  obtain⟨u,J⟩:=Option.isSome_iff_exists.1 E
  have e:=run_store P w ⟨b,off,none⟩ v .plain B
  rw[J] at e
  simp only[G] at e
  simp[Instr.storeAt,Instr.sureAddr,storeVar,h,iD D,storeCells,iY,e]
theorem Av {t b off i:Nat}{x y:Operand}{cs:Array Value}{B:TypeId}{v:Value}(J:o.dst=none) (K:want ops env o.guard=some true) (M:o.op=.store t x y) (U:(P.info? t).map (·.size)=some 1)
    (X:ev env x=some (.pointer (some ⟨b,off,none⟩))) (Y:ev env y=some v) (Z:v.oneCell'=true) (E:l[i]? = some (boxE b cs B)) (e:Nat.blt off cs.size=true)
    (D:l.set i (boxE b (cs.setIfInBounds off v) B)=l') (k:HL P N ops w0 l' env rest Q):HL P N ops w0 l env (o::rest) Q:=by
  subst D
  exact mU J K (fun a w h=>by
    have G:w.heap[b]? = some (.cells cs B (0,0)):=h.mem.holds _ (cT E)
    rw[Nat.blt_eq] at e
    refine⟨w.setCell ⟨b,off,none⟩ v,?_,h.mem.setBox E off v⟩
    have:=uA (P:=P) (t:=t) (v:=v) (w:=w) (b:=b) (off:=off) U Z (by rw[gQ G];simp[e]) (lU G)
    simp[execOp,M,h.eval X,h.eval Y,this]) k
theorem Dc {t i e h n j:Nat}{x y:Operand}{xs:List Value}{v u:Value}(X:o.dst=none) (Y:want ops env o.guard=some true) (Z:o.op=.store t x y) (hs:(P.info? t).map (·.size)=some 1)
    (hx:ev env x=some (elP v j)) (hy:ev env y=some u) (h1:u.oneCell'=true) (U:l[i]? = some (rowE e h v n xs)) (B:j<n*h)
    {n':Nat}{xs':List Value}(J:n=n') (K:xs.set j u=xs') (M:l.set i (rowE e h v n' xs')=l') (k:HL P N ops w0 l' env rest Q):HL P N ops w0 l env (o::rest) Q:=by
  subst M J K
  exact mU X Y (fun a w E=>by
    have G:w.ownsRow 0 e h v n xs:=E.mem.holds _ (cT U)
    obtain⟨g,D,rfl⟩:∃g D,v=.slice (some ⟨g,0,none⟩) n D:=by
      rcases G.2 with⟨rfl,rfl⟩|⟨g,cap',cur,rfl,_⟩
      · omega
      · exact⟨g,cap',rfl⟩
    refine⟨w.setCell ⟨g,j,none⟩ u,?_,E.mem.setRow U j u⟩
    have:=uA (P:=P) (t:=t) (v:=u) (w:=w) (b:=g) (off:=j) hs h1 (by rw[G.cellAt j B,List.getElem?_eq_getElem (by rw[G.1];exact B)];rfl) (G.frozenAt j)
    simp[execOp,Z,E.eval hx,elP,E.eval hy,this]) k
theorem eP (xs:List Int) (m:Nat) (y:Int):(xs.map (Value.int .i64)).set (m*1) (.int .i64 y)=(xs.set m y).map (Value.int .i64):=by rw[Nat.mul_one,List.map_set]
theorem Mem.append {w0 w K:World}{l:List HP}{e B n n' i:Nat}{v E:Value}{xs U:List Value}(Y:l[i]? = some (rowE e B v n xs)) (h:Mem w0 l w) (X:K.ownsRow 0 e B E n' U) (G:w.grownBy K v.ownBlock) (Z:E.ownBlock=v.ownBlock∨E.ownBlock=some w.heap.size):Mem w0 (l.set i (rowE e B E n' U)) K:=by
  refine h.turnAt Y G.os G.tape G.output G.size (fun k J hf=>G.block k J (fun e=>hf e.symm)) (qG _ _ _ _ _) (fun k J=>?_) (fun k J=>(X.lt k J).2) X
  have D:E.ownBlock=some k:=J
  rcases Z with M|M
  · exact .inl (show v.ownBlock=some k from M▸D)
  · rw[M] at D;cases D;exact .inr (Nat.le_refl _)
theorem Fv {t e s bytes n m i:Nat}{x y:Operand}{v u z:Value}{xs news:List Value}(hd:o.dst=some d) (hN:Nat.blt d N=true) (hw:want ops env o.guard=some true) (ho:o.op=.call { callee:=.builtin .append,args:=#[x,y],argTypes:=#[t,t] })
    (hu:P.underlying t=some (.slice e)) (hinf:(P.info? e).map (fun i=>(i.zero,i.size,i.bytes))=some (some z,s,bytes)) (hzs:(Nat.beq z.cells.size s&&Nat.blt 0 s&&Nat.ble bytes 1000)=true)
    (hx:ev env x=some v) (hy:ev env y=some u) (hi:l[i]? = some (rowE e s v n xs)) (hr:Rd w0 l u s m news) (h1:∀q∈news,q.oneCell'=true) (hnm:n+m≤100000000000)
    {n':Nat}{xs':List Value}(hn':n+m=n') (hx':xs++news=xs') {L:Value→List HP}(hL:∀v',l.set i (rowE e s v' n' xs')=L v')
    (k:∀v',HL P N ops w0 (L v') ((d,v')::env) rest Q):HL P N ops w0 l env (o::rest) Q:=fun a w st=>wpList_step fun K hK=>by
  rw[if_pos (st.wanted hw)]
  unfold Oper.wp
  obtain⟨inf,hi',hz,hs,hby⟩:=info_parts hinf
  simp only[and_eq_true,Nat.beq_eq,Nat.blt_eq,Nat.ble_eq] at hzs
  obtain⟨⟨hz1,hz2⟩,hz3⟩:=hzs
  obtain⟨ad,cap,rfl,hl,hm,hc⟩:=hr w st.mem
  have hown:w.ownsRow 0 e s v n xs:=st.mem.holds _ (cT hi)
  have hrun:∃v' w',(Builtin.append_ #[t,t] o.type #[v,.slice ad m cap]).run P w=.ok v' w'∧w'.ownsRow 0 e s v' (n+m) (xs++news)∧w.grownBy w' v.ownBlock∧(v'.ownBlock=v.ownBlock∨v'.ownBlock=some w.heap.size):=by
    by_cases hm0:m=0
    · subst hm0
      have hn:news=[]:=List.eq_nil_of_length_eq_zero (by simpa using hl)
      subst hn
      refine⟨v,w,?_,by simpa using hown,World.grownBy.refl _ _,.inl rfl⟩
      rcases hown.2 with⟨rfl,rfl⟩|⟨g,cap',cur,rfl,_,hg,hnc,hcm,hcs,htake⟩
      · cases ad<;>simp[Builtin.append_,run_underlying hu,sizeOf,typeInfo,hi',Builtin.lenOf,Builtin.firstCells,loadCells,loadCellsFrom]
      · cases ad<;>simp[Builtin.append_,run_underlying hu,sizeOf,typeInfo,hi',Builtin.lenOf,Builtin.firstCells,loadCells,loadCellsFrom,hnc,storeCells]
    · obtain ⟨b, off, rfl, hc'⟩ := hc (by omega)
      have hb:(n+m)*bytes≤140737488355328:=by have:=Nat.mul_le_mul hnm hz3;omega
      obtain⟨v',w',e1,e2,e3,_,e5⟩:=run_append_own_at (P:=P) w 0 t o.type e inf z s bytes hu hi' hz hs hby hz1 hz2 v n xs hown ⟨b,off,none⟩ m cap news hl (fun j q hj=>by rw[iY];exact hc' j q hj) h1 (by unfold maxLen;omega) hb (Nat.zero_le _)
      exact⟨v',w',e1,e2,e3,e5⟩
  obtain⟨v',w',e1,e2,e3,e4⟩:=hrun
  have hr:(execOp a.eval o).run P w=.ok (.value v') w':=by
    simp only[execOp,ho,resolve,invoke,builtin,Sem.run_bind,Sem.run_pure,Result.andThen_ok,List.map_toArray,map_cons,map_nil,st.eval hx,st.eval hy,e1]
  rw[hr,Oper.upon_value,hd]
  subst hn' hx'
  refine hK _ _ (k v' _ _ (st.put hN ?_))
  rw[←hL]
  exact Mem.append hi st.mem e2 e3 e4
theorem Hh {t e s n:Nat}{v:Value}{cs:List Value}{x:Operand}(D:o.op=.call { callee:=.builtin .len,args:=#[x],argTypes:=#[t] }) (E:P.underlying t=some (.slice e)) (G:ev env x=some v) (J:Rd w0 l v s n cs):RunV P N w0 l env o (.int .i64 (n:Int)):=fun a w B=>by
  obtain⟨K,h,rfl,_⟩:=J w B.mem
  have M:P.underlying t=some (.slice (P.elem t)):=by simp[Program.elem,E]
  have:=run_len_slice (P:=P) w t o.type K n h M
  simp only[execOp,D,resolve,invoke,builtin,Sem.run_bind,Sem.run_pure,Result.andThen_ok,List.map_toArray,map_cons,map_nil,B.eval G,this,goInt]
def slV (v:Value) (lo hi s:Nat):Value:=match v with | .slice a _ cap=>sliced a lo hi cap s|_=>undef
theorem uF {w:World}{v:Value}{s n:Nat}{cs:List Value}(h:RdsW w v s n cs) {lo hi:Nat}(h1:lo≤hi) (h2:hi≤n):RdsW w (slV v lo hi s) s (hi-lo) ((cs.drop (lo*s)).take ((hi-lo)*s)):=by
  obtain⟨a,cap,rfl,hl,⟨hn,hcap⟩,hc0⟩:=h
  refine⟨_,_,rfl,?_,⟨by omega,by omega⟩,fun hp=>?_⟩
  · rw [length_take, length_drop, hl, ← Nat.sub_mul]
    exact Nat.min_eq_left (Nat.mul_le_mul_right _ (by omega))
  · obtain ⟨b, off, rfl, hc⟩ := hc0 (by omega)
    refine⟨b,off+lo*s,?_,fun j u hj=>?_⟩
    · rw[if_neg (by omega)];simp[iY]
    · rw [List.getElem?_take] at hj
      split at hj
      · rw[List.getElem?_drop] at hj;rw[Nat.add_assoc];exact hc _ u hj
      · cases hj
theorem yB {w0:World}{l:List HP}{v:Value}{xs:List Int}(h:Rd w0 l v 1 xs.length (xs.map (Value.int .i64))) {k:Nat}(e:k≤xs.length):Rd w0 l (slV v 0 k 1) 1 (xs.take k).length ((xs.take k).map (Value.int .i64)):=fun w B=>by
  have:=uF (h w B) (Nat.zero_le k) e
  simp only[Nat.sub_zero,Nat.zero_mul,drop_zero,Nat.mul_one] at this
  rw[List.map_take,length_take,Nat.min_eq_left e];exact this
theorem pK {w0:World}{l:List HP}{v:Value}{xs:List Int}(h:Rd w0 l v 1 xs.length (xs.map (Value.int .i64))) {k:Nat}(e:k≤xs.length):Rd w0 l (slV v k xs.length 1) 1 (xs.drop k).length ((xs.drop k).map (Value.int .i64)):=fun w B=>by
  have:=uF (h w B) e (Nat.le_refl _)
  rw[Nat.mul_one,Nat.mul_one,List.take_of_length_le AI] at this
  rw[List.map_drop,length_drop];exact this
theorem rP {t e s n:Nat}{v:Value}{cs:List Value}{x y:Operand}{k:Int}{kk:IntKind}(K:o.op=.slice t x none (some y) none) (E:P.underlying t=some (.slice e)) (M:(P.info? e).map (·.size)=some s) (U:ev env x=some v) (X:ev env y=some (.int kk k)) (Y:Rd w0 l v s n cs) (Z:0≤k) (h1:k≤n):RunV P N w0 l env o (slV v 0 k.toNat s):=fun a w h=>by
  obtain⟨ad,B,rfl,hl,⟨hn,G⟩,hc⟩:=Y w h.mem
  have J:P.underlying t=some (.slice (P.elem t)):=by simp[Program.elem,E]
  have D:P.elem t=e:=by simp[Program.elem,E]
  have:=run_slice_h (P:=P) w t ad n B J kk k Z O
  simp[execOp,K,h.eval U,h.eval X,run_sliceAt_slice w t _ _ _ _ J,this,D,iD M,slV]
theorem nS {t e s n:Nat}{v:Value}{cs:List Value}{x y:Operand}{k:Int}{kk:IntKind}(K:o.op=.slice t x (some y) none none) (E:P.underlying t=some (.slice e)) (M:(P.info? e).map (·.size)=some s) (U:ev env x=some v) (X:ev env y=some (.int kk k)) (Y:Rd w0 l v s n cs) (Z:0≤k) (h1:k≤n):RunV P N w0 l env o (slV v k.toNat n s):=fun a w h=>by
  obtain⟨ad,B,rfl,hl,⟨hn,G⟩,hc⟩:=Y w h.mem
  have J:P.underlying t=some (.slice (P.elem t)):=by simp[Program.elem,E]
  have D:P.elem t=e:=by simp[Program.elem,E]
  have:=run_slice_l (P:=P) w t ad n B J kk k Z O
  simp[execOp,K,h.eval U,h.eval X,run_sliceAt_slice w t _ _ _ _ J,this,D,iD M,slV]
def goesB (P:Program) (f:FuncId):Bool:=match P.funcs[f]? with|some fn=>!(fn.name=="runtime.NumGoroutine")&&fn.body.isSome|none=>false
theorem xX {f:FuncId}(h:goesB P f=true) (vs:Array Value) (w:World):(callFunc f vs).run P w=.ok (.enter f vs) w:=by
  unfold goesB at h
  unfold callFunc
  cases hf:P.funcs[f]? with
  | none=>rw[hf] at h;cases h
  | some fn=>
    rw[hf] at h
    simp only[and_eq_true,Bool.not_eq_true',beq_eq_false_iff_ne] at h
    have e:fn.body.isNone=false:=by cases hb:fn.body<;>simp_all
    simp only[Sem.run_bind,run_program,Result.andThen_ok,hf]
    rw[if_neg (by simpa using h.1),if_neg (by rw[e];decide)]
    rfl
def evs (env:List (Nat×Value)) (xs:List Operand):Option (List Value):=xs.mapM (ev env)
theorem rD {a w} (st : St N w0 l env a w) : ∀ (xs : List Operand) (vs : List Value), evs env xs = some vs → xs.map a.eval = vs
  | [],vs,h=>by simp[evs] at h;subst h;rfl
  | x::xs,vs,h=>by
    simp only[evs,List.mapM_cons,Option.bind_eq_bind,Option.pure_def] at h
    cases hx:ev env x with
    | none=>rw[hx] at h;simp at h
    | some v=>
      cases hr:xs.mapM (ev env) with
      | none=>rw[hx,hr] at h;simp at h
      | some r=>
        rw[hx,hr] at h
        simp at h
        subst h
        simp[rD st xs r hr,st.eval hx]
def Ret (w:World) (R:Value→List HP→Prop) (e:Ending) (w':World):Prop:=∃v post,e=.returned v∧R v post∧Mem w post w'
def Ans (w:World) (v:Value) (e:Ending) (w':World):Prop:=e=.returned v∧Below w.heap.size w w'
theorem aF {f:FuncId}{xs:Array Operand}{D:Array TypeId}{vs:List Value}{R:Value→List HP→Prop}{ty:TypeId}{pos:String}{M:Array Edge}{U:Option (Nat×Bool)}{X:Option Nat}
    (E:goesB P f=true) (G:evs env xs.toList=some vs) (Y:∀w,Mem w0 l w→Calls P f vs.toArray w (Ret w R)):RunQ P N w0 l env { dst:=X,op:=.call { callee:=.value (.func f),args:=xs,argTypes:=D },type:=ty,pos:=pos,after:=M,guard:=U } R:=fun a w J Q K Z=>by
  unfold Oper.wp
  have h1:=rD J _ _ G
  have h2:#[]++xs.map a.eval ++ #[]=vs.toArray:=by
    rw[Array.empty_append,Array.append_empty]
    apply Array.toList_inj.1
    simpa using h1
  rw[execOp_call_go,h2,xX E,Oper.upon_enter]
  refine(Y w J.mem).mono fun e w' h=>?_
  obtain⟨v,post,rfl,hR,B⟩:=h
  exact Z _ _ _ hR B
theorem aI {f:FuncId}{vs:Array Value}{v:Value}{w:World}(h:Calls P f vs w (Ans w v)):Calls P f vs w (Ret w (fun B post=>B=v∧post=[])):=h.mono fun e G ⟨D,E⟩=>⟨v,[],D,⟨rfl,rfl⟩,(Mem.refl w).step E⟩
theorem Ii {v:Value}(B:o.dst=some d) (D:Nat.blt d N=true) (E:want ops env o.guard=some true) (h:RunQ P N w0 l env o (fun e post=>e=v∧post=[])) (k:HL P N ops w0 l ((d,v)::env) rest Q):HL P N ops w0 l env (o::rest) Q:=
  fF B D E h fun e post G=>by obtain⟨rfl,rfl⟩:=G;exact k
theorem aY {f:FuncId}{fn:Func}{c:Code}{args:List Value}{w:World}{R:Ending→World→Prop}(hf:P.funcs[f]? = some fn) (hb:fn.body=some c) (hN:(fn.ntmps==N&&Nat.ble args.length N)=true)
    (h:HC P N w [] (args.zipIdx.map fun p=>(p.2,p.1)) c (bodyPost P fn R)):Calls P f args.toArray w R:=by
  simp only[and_eq_true,beq_iff_eq,Nat.ble_eq] at hN
  refine calls_of_wp hf hb (h _ w ⟨Mem.refl w,?_,rfl,fun d v hd=>?_⟩)
  · simp;omega
  · have hm := Cv hd
    rw[List.mem_map] at hm
    obtain⟨p,hp,he⟩:=hm
    have:=List.mem_zipIdx_iff_getElem?.1 hp
    simp only[Prod.mk.injEq] at he
    obtain⟨rfl,rfl⟩:=he
    have hlt:p.2<args.length:=(List.getElem?_eq_some_iff.1 this).1
    rw[Array.getElem?_append_left (by simpa using hlt)]
    simpa using this
def ResIs (P:Program) (w0:World) (l:List HP) (env:List (Nat×Value)) (r:ResultVar) (v:Value):Prop:=match r with
  | .tmp t=>lk env t=some v
  | .cell a t=>∃b off cs,lk env a=some (.pointer (some ⟨b,off,none⟩))∧v=.agg (List.toArray cs)∧aggB P t=some true∧(P.info? t).map (·.size)=some cs.length∧∀w,Mem w0 l w→∀j u,cs[j]? = some u→w.cell? ⟨b,off+j,none⟩=some u
def resRun (tm:Array Value):ResultVar→Sem Value
  | .tmp t=>pure (tm.getD t undef)
  | .cell c t=>do loadVar t (←asAddr (tm.getD c undef))
theorem Ch (e:Func) (B:Array Value):results e B=(do let vs←e.results.mapM (resRun B);pure (if h:vs.size=1 then vs[0] else .tuple vs)):=by
  unfold results
  congr 1
theorem ResIs.run {a w}(e:St N w0 l env a w) {r:ResultVar}{v:Value}(h:ResIs P w0 l env r v):(resRun a.tmps r).run P w=.ok v w:=by
  cases r with
  | tmp t=>
    have:=e.env t v h
    simp[resRun,this]
  | cell c t=>
    obtain⟨b,off,cs,D,rfl,E,G,J⟩:=h
    have:=e.env c _ D
    have B:=kM (P:=P) (b:=b) (off:=off) (w:=w) cs.length 0 cs #[] rfl (fun j u K=>J w e.mem j u K)
    simp at B
    simp[resRun,this,asAddr,loadVar,qF E,iD G,loadCells,B]
def AllIs (P:Program) (w0:World) (l:List HP) (env:List (Nat×Value)):List ResultVar→List Value→Prop
  | [],[]=>True
  | r::rs,v::vs=>ResIs P w0 l env r v∧AllIs P w0 l env rs vs
  | _,_=>False
theorem ResIs.all {a w}(e:St N w0 l env a w):∀(rs:List ResultVar) (vs:List Value),AllIs P w0 l env rs vs→(rs.mapM (resRun a.tmps)).run P w=.ok vs w
  | [],[],h=>AI
  | [],_::_,h=>h.elim
  | r::rs,[],h=>h.elim
  | r::rs,v::vs,h=>by
    simp only[List.mapM_cons,Sem.run_bind]
    rw[ResIs.run e h.1]
    simp only[Result.andThen_ok,ResIs.all e rs vs h.2,Sem.run_pure]
def tupled (vs:List Value):Value:=match vs with|[v]=>v|vs=>.tuple vs.toArray
theorem fU {B:Func}{R:Ending→World→Prop}{rs:List ResultVar}{vs:List Value}{v:Value}(D:B.results=rs.toArray) (E:AllIs P w0 l env rs vs) (G:tupled vs=v) (h:∀w,Mem w0 l w→R (.returned v) w):HQ N w0 l env .ret (bodyPost P B R):=fun a w e=>by
  refine⟨e.defers,v,?_,h w e.mem⟩
  have J:=ResIs.all (P:=P) e rs vs E
  rw[Ch,D]
  simp only[List.mapM_toArray,Sem.run_bind,Sem.run_map]
  rw[J]
  simp only[Result.andThen_ok,Sem.run_pure]
  subst G
  cases vs with
  | nil=>rfl
  | cons v vs=>cases vs<;>rfl
theorem dO (h:l=l') (k:HL P N ops w0 l' env rest Q):HL P N ops w0 l env rest Q:=h▸k
theorem aM {b:Nat}{cs:Array Value}{t:TypeId}{us:List Value}(i:Nat) (h:l[i]? = some (boxE b cs t)) (k:Nat) (B:(cs.toList.drop k).take us.length=us):∀w,Mem w0 l w→∀j u,us[j]? = some u→w.cell? ⟨b,k+j,none⟩=some u:=fun w D j u e=>by
  rw[gQ (D.holds _ (cT h))]
  rw[←B,List.getElem?_take] at e
  split at e
  · simpa using e
  · cases e
theorem hH {f:FuncId}{vs:Array Value}{v:Value}{w:World}(h:Calls P f vs w fun e B=>e=.returned v∧w=B):Calls P f vs w (Ans w v):=h.mono fun _ _ ⟨D,E⟩=>⟨D,E▸Below.refl _ _⟩
theorem bK {α:Type}(a b:List α):a.length+b.length=(a++b).length:=List.length_append.symm
theorem cB (a b:List Int):a.map (Value.int .i64)++b.map (Value.int .i64)=(a++b).map (Value.int .i64):=List.map_append.symm
theorem bI (xs:List Int):∀q∈xs.map (Value.int .i64),q.oneCell'=true:=by
  intro q e;rw[List.mem_map] at e;obtain⟨x, -,rfl⟩:=e;rfl
theorem cJ {xs:List Int}{m:Int}(h:m.toNat<xs.length):(xs.map (Value.int .i64))[m.toNat*1]? = some (.int .i64 (xs.getD m.toNat 0)):=by
  simp[h]
theorem aT {e:Func}{t:Tmp}{v u:Value}(h:e.results=#[.tmp t]) (B:lk env t=some v) (D:v=u):HQ N w0 l env .ret (bodyPost P e (Ans w0 u)):=
  fU (rs:=[.tmp t]) (vs:=[v]) h ⟨B,trivial⟩ rfl (fun w E=>⟨by rw[D];rfl,E.bel⟩)
theorem bM {e:Func}{R:Value→List HP→Prop}{t:Tmp}{v:Value}{post:List HP}(B:e.results=#[.tmp t]) (D:lk env t=some v) (E:post.Sublist l) (h:R v post):HQ N w0 l env .ret (bodyPost P e (Ret w0 R)):=
  fU (rs:=[.tmp t]) (vs:=[v]) B ⟨D,trivial⟩ rfl (fun w G=>⟨v,post,rfl,h,G.sub E⟩)
end
def depsOf (os:List Oper) (i:Nat):List Nat:=match os[i]? with|some o=>(o.after.toList.filter (fun e=>Region.binds .any e)).map (·.on)|none=>[]
def msk:List (List Nat)→List Nat→List Nat
  | [],acc=>acc
  | ds::r,acc=>msk r (acc++[ds.foldl (fun s d=>s||| 2 ^ d||| acc.getD d 0) 0])
inductive Dep (os:List Oper):Nat→Nat→Prop
  | one {i j:Nat}:j∈depsOf os i→Dep os i j
  | more {i k j:Nat}:k∈depsOf os i→Dep os k j→Dep os i j
theorem wW (acc:List Nat) (j:Nat):∀(ds:List Nat) (s:Nat),(ds.foldl (fun s d=>s||| 2 ^ d||| acc.getD d 0) s).testBit j=true→s.testBit j=true∨∃d∈ds,d=j∨(acc.getD d 0).testBit j=true
  | [],s,h=>.inl h
  | d::ds,s,h=>by
    rcases wW acc j ds _ h with h1|⟨e,he,h1⟩
    · rw [Nat.testBit_or, Nat.testBit_or, Bool.or_eq_true, Bool.or_eq_true, Nat.testBit_two_pow] at h1
      rcases h1 with(h1|h1)|h1
      · exact .inl h1
      · exact .inr ⟨d,by simp,.inl (by simpa using h1)⟩
      · exact .inr ⟨d,by simp,.inr h1⟩
    · exact .inr ⟨e,by simp[he],h1⟩
theorem yF (os : List Oper) : ∀ (r : List (List Nat)) (acc : List Nat), (∀ t ds, r[t]? = some ds → ∀ d ∈ ds, d ∈ depsOf os (acc.length + t)) → (∀ i j, (acc.getD i 0).testBit j = true → Dep os i j) → ∀ i j, ((msk r acc).getD i 0).testBit j = true → Dep os i j
  | [],acc,_,h,i,j,hb=>h i j hb
  | ds::r,acc,hr,h,i,j,hb=>by
    refine yF os r _ (fun t es ht d hd=>?_) (fun i j hb=>?_) i j hb
    · have := hr (t + 1) es (by simpa using ht) d hd
      rw[length_append]
      rw[show acc.length+[ds.foldl (fun s d=>s||| 2 ^ d||| acc.getD d 0) 0].length+t=acc.length+(t+1) by simp;omega]
      exact this
    · by_cases hi : i < acc.length
      · refine h i j ?_
        rw[getD_eq_getElem?_getD,List.getElem?_append_left hi,←getD_eq_getElem?_getD] at hb
        exact hb
      · by_cases hi2 : i = acc.length
        · subst hi2
          rw[getD_eq_getElem?_getD,List.getElem?_append_right (Nat.le_refl _),Nat.sub_self] at hb
          simp only[List.getElem?_cons_zero,Option.getD_some] at hb
          rcases wW acc j ds 0 hb with h1|⟨d,hd,h1⟩
          · simp at h1
          · have h2 := hr 0 ds rfl d hd
            rw[Nat.add_zero] at h2
            rcases h1 with rfl|h1
            · exact .one h2
            · exact .more h2 (h d j h1)
        · rw [getD_eq_getElem?_getD, List.getElem?_append_right (by omega), List.getElem?_eq_none (by simp; omega)] at hb
          simp at hb
def drawOk (os:List Oper) (m:Nat) (dps:List (List Nat)) (dsts:List Nat):Bool:=
  Nat.ble m os.length&&
  (List.range os.length).all (fun i=>(depsOf os i).all (fun j=>Nat.blt j i))&&
  (List.range os.length).all (fun k=>Nat.blt k m||(List.range m).all (fun j=>((msk ((List.range os.length).map (depsOf os)) []).getD k 0).testBit j))&&
  (List.range (os.length-m)).all (fun t=>Region.ready .any os.toArray (replicate (m+t) true++replicate (os.length-(m+t)) false).toArray==[m+t])&&
  (os.take m).map (·.dst)==dsts.map some&&decide (dsts.Nodup)&&
  (List.range m).all (fun i=>(dps.getD i []).all (fun j=>((msk ((List.range os.length).map (depsOf os)) []).getD i 0).testBit j)&&decide ((dps.getD i []).Nodup))
def Obl (P:Program) (ops:Array Oper) (N:Nat) (w0:World) (l:List HP) (env:List (Nat×Value)) (o:Oper) (R:Value→List HP→Prop):Prop:=
  (want ops env o.guard=some true∧RunQ P N w0 l env o R)∨(want ops env o.guard=some false∧R undef [])
theorem mR:∀(B e:List Nat),B.Nodup→(∀j∈B,j∈e)→∃r,e.Perm (B++r)
  | [],e,_,_=>⟨e,.refl _⟩
  | j::B,e,hn,hs=>by
    obtain⟨r,E⟩:=mR B e (List.nodup_cons.1 hn).2 (fun k G=>hs k (by simp[G]))
    have J:j∈B++r:=E.mem_iff.1 (hs j AI)
    have D:j∈r:=by
      rcases List.mem_append.1 J with h|h
      · exact absurd h (List.nodup_cons.1 hn).1
      · exact h
    exact⟨r.erase j,E.trans (((List.perm_cons_erase D).append_left B).trans List.perm_middle)⟩
theorem Mem.pick {w0 w:World}{l:List HP}{D:Nat→List HP}{B e:List Nat}(h:Mem w0 (e.flatMap D++l) w) (G:B.Nodup) (J:∀j∈B,j∈e):Mem w0 (B.flatMap D++l) w:=by
  obtain⟨r,K⟩:=mR B e G J
  have E:=h.perm ((K.flatMap_right D).append_right l)
  rw[List.flatMap_append] at E
  exact E.sub (((List.sublist_append_left _ _)).append_right l)
section
variable {P:Program}{N:Nat}{w0:World}{l:List HP}{env:List (Nat×Value)}{Q:Post}{os:List Oper}{m:Nat}{dps:List (List Nat)}{dsts:List Nat}{R:Nat→List Value→Value→List HP→Prop}
def preT (n k:Nat):Array Bool:=(replicate k true++replicate (n-k) false).toArray
theorem nT (n k i:Nat) (e:k≤n) (B:i<n):(preT n k).getD i true=decide (i<k):=by
  unfold preT
  simp only[Array.getD_eq_getD_getElem?,List.getElem?_toArray]
  by_cases h:i<k
  · rw[List.getElem?_append_left (by simpa using h)];simp[h]
  · rw[List.getElem?_append_right (by simpa using h),List.getElem?_eq_getElem (by simp;omega)];simp[h]
theorem kH (n k:Nat) (e:k≤n):(preT n k).size=n:=by unfold preT;simp;omega
theorem Hl (n k:Nat) (hk:k<n):(preT n k).setIfInBounds k true=preT n (k+1):=by
  apply Array.ext
  · simp[kH n k (by omega),kH n (k+1) (by omega)]
  · intro i h1 h2
    have hi:i<n:=by rw[kH n (k+1) (by omega)] at h2;exact h2
    have e1:=nT n k i (by omega) hi
    have e2:=nT n (k+1) i (by omega) hi
    rw[Array.getD_eq_getD_getElem?,Array.getElem?_eq_getElem (by rw[kH n k (by omega)];exact hi)] at e1
    rw[Array.getD_eq_getD_getElem?,Array.getElem?_eq_getElem h2] at e2
    simp only[Option.getD_some] at e1 e2
    rw[e2,Array.getElem_setIfInBounds]
    · split
      · rename_i h;subst h;simp
      · rw[e1];rw[decide_eq_decide];omega
    · rw[kH n k (by omega)];exact hi
theorem tT (hr:∀k,m≤k→k<os.length→Region.ready .any os.toArray (preT os.length k)=[k]):∀(f k:Nat),m≤k→f+k=os.length→∀a w,wpList P os.toArray Q (os.drop k) a w→wpAny P .any os.toArray Q f (preT os.length k) a w
  | 0,k,hk,hf,a,w,h=>by
    have:os.drop k=[]:=List.drop_eq_nil_of_le (by omega)
    rw[this] at h
    refine⟨?_,h⟩
    unfold Region.ready
    rw[List.filter_eq_nil_iff]
    intro i hi
    rw[mem_range] at hi
    simp only[List.size_toArray] at hi
    rw[nT _ _ i (by omega) (by omega)]
    simp[show i<k by omega]
  | f+1,k,hk,hf,a,w,h=>by
    have hlt:k<os.length:=by omega
    have hd:os.drop k=os[k]::os.drop (k+1):=List.drop_eq_getElem_cons hlt
    rw[hd] at h
    refine⟨fun h0=>(by rw[hr k hk hlt] at h0;cases h0),fun i hi=>?_⟩
    rw[hr k hk hlt,mem_singleton] at hi
    subst hi
    unfold wpOp
    have ho:os.toArray[i]? = some os[i]:=by simp[hlt]
    rw[ho]
    unfold wpList at h
    rw[Hl _ _ hlt]
    have ih:=tT hr f (i+1) (by omega) (by omega)
    simp only
    split
    · rename_i hw
      rw[if_pos hw] at h
      exact h.imp (Oper.wp_mono fun a w hh=>ih a w hh) id
    · rename_i hw
      rw[if_neg hw] at h
      exact ih _ _ h
structure Mid (N:Nat) (w0:World) (l:List HP) (env:List (Nat×Value)) (os:List Oper) (m:Nat) (dps:List (List Nat)) (dsts:List Nat) (R:Nat→List Value→Value→List HP→Prop) (listed:Array Bool) (ord:List Nat) (vf:Nat→Value) (pf:Nat→List HP) (a:Act) (w:World):Prop where
  size:listed.size=os.length
  iff:∀i,i<os.length→(listed.getD i true=true↔i∈ord)
  low:∀i∈ord,i<m
  closed:∀i∈ord,∀j∈depsOf os i,j∈ord
  nodup:ord.Nodup
  dcl:∀i∈ord,∀j∈dps.getD i [],j∈ord
  rel:∀i∈ord,R i ((dps.getD i []).map vf) (vf i) (pf i)
  mem:Mem w0 (ord.flatMap pf++l) w
  asize:a.tmps.size=N
  defers:a.defers=[]
  env:∀d v,lk env d=some v→a.tmps[d]? = some v
  slots:∀i∈ord,∀d,dsts[i]? = some d→a.tmps[d]? = some (vf i)
def envOf (dsts:List Nat) (vf:Nat→Value) (is:List Nat):List (Nat×Value):=is.map fun i=>(dsts.getD i 0,vf i)
theorem oP (B D:List (Nat×Value)) (d:Nat) (v:Value) (h:lk (B++D) d=some v):(d,v)∈B∨lk D d=some v:=by
  induction B with
  | nil=>exact .inr h
  | cons p B ih=>
    obtain⟨k,u⟩:=p
    rw[List.cons_append] at h
    unfold lk at h
    cases e:Nat.beq k d with
    | true=>rw[e] at h;simp at h;subst h;rw[Nat.eq_of_beq_eq_true e];exact .inl mem_cons_self
    | false=>
      rw[e] at h
      rcases ih h with h|h
      · exact .inl (mem_cons_of_mem _ h)
      · exact .inr h
theorem Mid.st {listed ord vf pf a w}(h:Mid N w0 l env os m dps dsts R listed ord vf pf a w) (hm:m≤dsts.length) {is:List Nat}(hn:is.Nodup) (hs:∀j∈is,j∈ord):St N w0 (is.flatMap pf++l) (envOf dsts vf is++env) a w:=by
  refine⟨h.mem.pick hn hs,h.asize,h.defers,fun d v hd=>?_⟩
  rcases oP _ _ _ _ hd with h1|h1
  · unfold envOf at h1
    rw[List.mem_map] at h1
    obtain⟨i,hi,he⟩:=h1
    have hio:=hs i hi
    have hlt:=h.low i hio
    have:dsts[i]? = some (dsts.getD i 0):=by rw[getD_eq_getElem?_getD,List.getElem?_eq_getElem (by omega)];rfl
    simp only[Prod.mk.injEq] at he
    obtain⟨rfl,rfl⟩:=he
    exact h.slots i hio _ this
  · exact h.env d v h1
def Dues (P:Program) (ops:Array Oper) (N:Nat) (w0:World) (l:List HP) (env:List (Nat×Value)) (dsts:List Nat) (all:List (List Nat)) (R:Nat→List Value→Value→List HP→Prop):Nat→List (List Nat)→List Oper→Prop
  | _,_,[]=>True
  | k,[],o::os=>(∀(vf:Nat→Value) (pf:Nat→List HP),Obl P ops N w0 l env o (R k []))∧Dues P ops N w0 l env dsts all R (k+1) [] os
  | k,ds::dps,o::os=>(∀(vf:Nat→Value) (pf:Nat→List HP),(∀j∈ds,R j ((all.getD j []).map vf) (vf j) (pf j))→Obl P ops N w0 (ds.flatMap pf++l) (envOf dsts vf ds++env) o (R k (ds.map vf)))∧Dues P ops N w0 l env dsts all R (k+1) dps os
theorem yW {P:Program}{ops:Array Oper}{N:Nat}{w0:World}{l:List HP}{env:List (Nat×Value)}{dsts:List Nat}{B:List (List Nat)}{R:Nat→List Value→Value→List HP→Prop}:∀(os:List Oper) (dps:List (List Nat)) (k:Nat),Dues P ops N w0 l env dsts B R k dps os→∀i o,os[i]? = some o→∀vf e,(∀j∈dps.getD i [],R j ((B.getD j []).map vf) (vf j) (e j))→Obl P ops N w0 ((dps.getD i []).flatMap e++l) (envOf dsts vf (dps.getD i [])++env) o (R (k+i) ((dps.getD i []).map vf))
  | [],_,_,_,i,o,ho,_,_,_=>by simp at ho
  | o'::os,[],k,h,0,o,ho,vf,e,_=>by simp at ho;subst ho;exact h.1 vf e
  | o'::os,[],k,h,i+1,o,ho,vf,e,hR=>by
    have:=yW os [] (k+1) h.2 i o (by simpa using ho) vf e AI
    rw[show k+1+i=k+(i+1) by omega] at this
    simpa using this
  | o'::os,ds::dps,k,h,0,o,ho,vf,e,hR=>by simp at ho;subst ho;exact h.1 vf e hR
  | o'::os,ds::dps,k,h,i+1,o,ho,vf,e,hR=>by
    have:=yW os dps (k+1) h.2 i o (by simpa using ho) vf e (by simpa using hR)
    rw[show k+1+i=k+(i+1) by omega] at this
    simpa using this
theorem cC {ops:Array Oper}{env:List (Nat×Value)}{j:Nat}{b c r:Bool}(e:((ops[j]?).bind (·.dst)).bind (lk env)=some (.bool c)) (h:(c==b)=r):want ops env (some (j,b))=some r:=by
  unfold want;simp only[e,h]
theorem Aw {α:Type}{c:Code}(L:α→List HP) (E:α→List (Nat×Value)) (G:α→Prop) (m:α→Nat) (J:α) (U:G J) (X:sub (E J) env) (Y:(L J).Sublist l)
    (B:∀x,G x→HC P N w0 (L x) (E x) c (Exit.then (fun K M=>∃D,G D∧m D<m x∧St N w0 (L D) (E D) K M) Q)):HC P N w0 l env (.loop c) Q:=
  tL (fun q:α=>L q) (fun q=>E q) (fun q=>G q) (fun q=>m q) (J) U X Y (fun q Z a w st=>wp_mono (B q Z a w st) fun e K M h=>by
    cases e with
    | normal=>obtain⟨D,h1,h2,h3⟩:=h;exact⟨(D),h1,h2,h3⟩
    | exit id=>exact h
    | goto l=>exact h
    | ret=>exact h
    | panic ch=>exact h
    | outgrown=>exact h)
theorem dR {α:Type}{L:α→List HP}{E:α→List (Nat×Value)}{G:α→Prop}{m:α→Nat}{M:Nat}(e:α) (h:G e) (B:m e<M) (D:sub (E e) env) (J:(L e).Sublist l) :
    HQ N w0 l env .normal (Exit.then (fun K U=>∃e,G e∧m e<M∧St N w0 (L e) (E e) K U) Q):=fun a w X=>⟨e,h,B,X.less D J⟩
theorem rA {α:Type}{K M:Code}(L:α→List HP) (E:α→List (Nat×Value)) (G:α→Prop) (h:HC P N w0 l env K (Exit.then (fun D J=>∃B,G B∧St N w0 (L B) (E B) D J) Q)) (k:∀x,G x→HC P N w0 (L x) (E x) M Q):HC P N w0 l env (.seq K M) Q:=by
  intro a w U
  refine wp_seq (wp_mono (h a w U) fun e D J h=>?_)
  cases e with
  | normal=>obtain⟨B,X,Y⟩:=h;exact k B X D J Y
  | exit id=>exact h
  | goto l=>exact h
  | ret=>exact h
  | panic ch=>exact h
  | outgrown=>exact h
theorem fV {α:Type}{L:α→List HP}{E:α→List (Nat×Value)}{G:α→Prop}(e:α) (h:G e) (B:sub (E e) env) (D:(L e).Sublist l) :
    HQ N w0 l env .normal (Exit.then (fun J K=>∃e,G e∧St N w0 (L e) (E e) J K) Q):=fun a w M=>⟨e,h,M.less B D⟩
theorem nX {α β:Type}{c:Code}(L:α→β→List HP) (E:α→β→List (Nat×Value)) (G:α→β→Prop) (m:α→β→Nat) (K:α) (M:β) (Y:G K M) (Z:sub (E K M) env) (hl:(L K M).Sublist l)
    (B:∀x y,G x y→HC P N w0 (L x y) (E x y) c (Exit.then (fun U X=>∃D J,G D J∧m D J<m x y∧St N w0 (L D J) (E D J) U X) Q)):HC P N w0 l env (.loop c) Q:=
  tL (fun q:α×β=>L q.1 q.2) (fun q=>E q.1 q.2) (fun q=>G q.1 q.2) (fun q=>m q.1 q.2) (K,M) Y Z hl (fun q hq a w st=>wp_mono (B q.1 q.2 hq a w st) fun e U X h=>by
    cases e with
    | normal=>obtain⟨D,J,h1,h2,h3⟩:=h;exact⟨(D,J),h1,h2,h3⟩
    | exit id=>exact h
    | goto l=>exact h
    | ret=>exact h
    | panic ch=>exact h
    | outgrown=>exact h)
theorem bO {α β:Type}{L:α→β→List HP}{E:α→β→List (Nat×Value)}{G:α→β→Prop}{m:α→β→Nat}{M:Nat}(e:α) (h:β) (B:G e h) (D:m e h<M) (J:sub (E e h) env) (K:(L e h).Sublist l) :
    HQ N w0 l env .normal (Exit.then (fun U X=>∃e h,G e h∧m e h<M∧St N w0 (L e h) (E e h) U X) Q):=fun a w Y=>⟨e,h,B,D,Y.less J K⟩
theorem kX {α β:Type}{M U:Code}(L:α→β→List HP) (E:α→β→List (Nat×Value)) (G:α→β→Prop) (h:HC P N w0 l env M (Exit.then (fun J K=>∃B D,G B D∧St N w0 (L B D) (E B D) J K) Q)) (k:∀x y,G x y→HC P N w0 (L x y) (E x y) U Q):HC P N w0 l env (.seq M U) Q:=by
  intro a w X
  refine wp_seq (wp_mono (h a w X) fun e J K h=>?_)
  cases e with
  | normal=>obtain⟨B,D,Y,Z⟩:=h;exact k B D Y J K Z
  | exit id=>exact h
  | goto l=>exact h
  | ret=>exact h
  | panic ch=>exact h
  | outgrown=>exact h
theorem eU {α β:Type}{L:α→β→List HP}{E:α→β→List (Nat×Value)}{G:α→β→Prop}(e:α) (h:β) (B:G e h) (D:sub (E e h) env) (J:(L e h).Sublist l) :
    HQ N w0 l env .normal (Exit.then (fun K M=>∃e h,G e h∧St N w0 (L e h) (E e h) K M) Q):=fun a w U=>⟨e,h,B,U.less D J⟩
theorem vA {α β γ:Type}{c:Code}(L:α→β→γ→List HP) (E:α→β→γ→List (Nat×Value)) (G:α→β→γ→Prop) (m:α→β→γ→Nat) (M:α) (U:β) (X:γ) (hG:G M U X) (hs:sub (E M U X) env) (hl:(L M U X).Sublist l)
    (B:∀x y z,G x y z→HC P N w0 (L x y z) (E x y z) c (Exit.then (fun Y Z=>∃D J K,G D J K∧m D J K<m x y z∧St N w0 (L D J K) (E D J K) Y Z) Q)):HC P N w0 l env (.loop c) Q:=
  tL (fun q:α×β×γ=>L q.1 q.2.1 q.2.2) (fun q=>E q.1 q.2.1 q.2.2) (fun q=>G q.1 q.2.1 q.2.2) (fun q=>m q.1 q.2.1 q.2.2) (M,U,X) hG hs hl (fun q hq a w st=>wp_mono (B q.1 q.2.1 q.2.2 hq a w st) fun e Y Z h=>by
    cases e with
    | normal=>obtain⟨D,J,K,h1,h2,h3⟩:=h;exact⟨(D,J,K),h1,h2,h3⟩
    | exit id=>exact h
    | goto l=>exact h
    | ret=>exact h
    | panic ch=>exact h
    | outgrown=>exact h)
theorem aQ {α β γ:Type}{L:α→β→γ→List HP}{E:α→β→γ→List (Nat×Value)}{G:α→β→γ→Prop}{m:α→β→γ→Nat}{M:Nat}(e:α) (h:β) (B:γ) (D:G e h B) (J:m e h B<M) (K:sub (E e h B) env) (U:(L e h B).Sublist l) :
    HQ N w0 l env .normal (Exit.then (fun X Y=>∃e h B,G e h B∧m e h B<M∧St N w0 (L e h B) (E e h B) X Y) Q):=fun a w Z=>⟨e,h,B,D,J,Z.less K U⟩
theorem uZ {α β γ δ:Type}{c:Code}(L:α→β→γ→δ→List HP) (E:α→β→γ→δ→List (Nat×Value)) (G:α→β→γ→δ→Prop) (m:α→β→γ→δ→Nat) (U:α) (X:β) (Y:γ) (Z:δ) (hG:G U X Y Z) (hs:sub (E U X Y Z) env) (hl:(L U X Y Z).Sublist l)
    (B:∀x y z u,G x y z u→HC P N w0 (L x y z u) (E x y z u) c (Exit.then (fun a' w'=>∃D J K M,G D J K M∧m D J K M<m x y z u∧St N w0 (L D J K M) (E D J K M) a' w') Q)):HC P N w0 l env (.loop c) Q:=
  tL (fun q:α×β×γ×δ=>L q.1 q.2.1 q.2.2.1 q.2.2.2) (fun q=>E q.1 q.2.1 q.2.2.1 q.2.2.2) (fun q=>G q.1 q.2.1 q.2.2.1 q.2.2.2) (fun q=>m q.1 q.2.1 q.2.2.1 q.2.2.2) (U,X,Y,Z) hG hs hl (fun q hq a w st=>wp_mono (B q.1 q.2.1 q.2.2.1 q.2.2.2 hq a w st) fun e a' w' h=>by
    cases e with
    | normal=>obtain⟨D,J,K,M,h1,h2,h3⟩:=h;exact⟨(D,J,K,M),h1,h2,h3⟩
    | exit id=>exact h
    | goto l=>exact h
    | ret=>exact h
    | panic ch=>exact h
    | outgrown=>exact h)
theorem dH {α β γ δ:Type}{L:α→β→γ→δ→List HP}{E:α→β→γ→δ→List (Nat×Value)}{G:α→β→γ→δ→Prop}{m:α→β→γ→δ→Nat}{M:Nat}(e:α) (h:β) (B:γ) (D:δ) (J:G e h B D) (K:m e h B D<M) (U:sub (E e h B D) env) (X:(L e h B D).Sublist l) :
    HQ N w0 l env .normal (Exit.then (fun Y Z=>∃e h B D,G e h B D∧m e h B D<M∧St N w0 (L e h B D) (E e h B D) Y Z) Q):=fun a w st=>⟨e,h,B,D,J,K,st.less U X⟩
theorem uY {α β γ δ:Type}{X Y:Code}(L:α→β→γ→δ→List HP) (E:α→β→γ→δ→List (Nat×Value)) (G:α→β→γ→δ→Prop) (h:HC P N w0 l env X (Exit.then (fun M U=>∃B D J K,G B D J K∧St N w0 (L B D J K) (E B D J K) M U) Q)) (k:∀x y z u,G x y z u→HC P N w0 (L x y z u) (E x y z u) Y Q):HC P N w0 l env (.seq X Y) Q:=by
  intro a w Z
  refine wp_seq (wp_mono (h a w Z) fun e M U h=>?_)
  cases e with
  | normal=>obtain⟨B,D,J,K,hz,sz⟩:=h;exact k B D J K hz M U sz
  | exit id=>exact h
  | goto l=>exact h
  | ret=>exact h
  | panic ch=>exact h
  | outgrown=>exact h
theorem iL {α β γ δ:Type}{L:α→β→γ→δ→List HP}{E:α→β→γ→δ→List (Nat×Value)}{G:α→β→γ→δ→Prop}(e:α) (h:β) (B:γ) (D:δ) (J:G e h B D) (K:sub (E e h B D) env) (M:(L e h B D).Sublist l) :
    HQ N w0 l env .normal (Exit.then (fun U X=>∃e h B D,G e h B D∧St N w0 (L e h B D) (E e h B D) U X) Q):=fun a w Y=>⟨e,h,B,D,J,Y.less K M⟩
theorem Mem.nilRow {w0 w:World}{l:List HP}(h:Mem w0 l w) (e s:Nat):Mem w0 (rowE e s (.slice none 0 0) 0 []::l) w:=by
  have:Mem w [rowE e s (.slice none 0 0) 0 []] w:=by
    refine⟨Below.refl _ _,?_,?_,?_,AI⟩
    · intro p B;rw[mem_singleton] at B;subst B;exact World.ownsRow_nil ..
    · intro p B;rw[mem_singleton] at B;subst B;exact qG _ _ _ _ _
    · intro p B b D;rw[mem_singleton] at B;subst B;cases D
  exact h.app this
theorem rW {rest:List Oper}{ops:Array Oper}(e s:Nat) (k:HL P N ops w0 (rowE e s (.slice none 0 0) 0 []::l) env rest Q):HL P N ops w0 l env rest Q:=fun a w h=>k a w (h.to (h.mem.nilRow e s))
theorem cR {ops : Array Oper} {rest : List Oper} {d : Nat} {f : FuncId} {xs : Array Operand} {ats : Array TypeId} {vs : List Value} {p : HP} {R : Value → HP → Prop} {ty : TypeId} {pos : String} {af : Array Edge} {gd : Option (Nat × Bool)} (i : Nat) (hN : Nat.blt d N = true) (hw : want ops env gd = some true)
    (hgo:goesB P f=true) (hvs:evs env xs.toList=some vs) (hi:l[i]? = some p)
    (hc:∀l' w,Mem w0 (p::l') w→Calls P f vs.toArray w fun e w'=>∃v p',e=.returned v∧R v p'∧Mem w0 (p'::l') w') (k:∀v p',R v p'→HL P N ops w0 (l.set i p') ((d,v)::env) rest Q):HL P N ops w0 l env ({ dst:=some d,op:=.call { callee:=.value (.func f),args:=xs,argTypes:=ats },type:=ty,pos:=pos,after:=af,guard:=gd } :: rest) Q:=fun a w st=>by
  obtain⟨r,h1, -⟩:=uI (p':=p) hi
  refine El (vs:=vs.toArray) rfl hN hw (fun a=>execOp_call_go a (some d) f xs ats ty pos af gd) (fun a w st=>?_) (fun w=>xX hgo _ w) (fun w hm=>(hc r w (hm.perm h1)).mono fun e w' h=>?_) a w st
  · have := rD st _ _ hvs
    rw[Array.empty_append,Array.append_empty]
    apply Array.toList_inj.1
    simpa using this
  · obtain ⟨v, p', rfl, hR, hm'⟩ := h
    have h2:(p'::r).Perm (l.set i p'):=by
      obtain⟨r',h3,h4⟩:=uI (p':=p') hi
      have:r.Perm r':=by
        have:=h1.symm.trans h3
        exact(List.perm_cons p).1 this
      exact(this.cons p').trans h4
    exact⟨v,_,rfl,hm'.perm h2,k v p' hR⟩
end
def pickE (env : List (Nat × Value)) : List Nat → List (Nat × Value) → Option (List (Nat × Value))
  | [],acc=>some acc
  | k::ks,acc=>match lk env k with
    | some v=>pickE env ks ((k,v)::acc)
    | none=>none
theorem bE {env env':List (Nat×Value)}:∀(B:List Nat) (e:List (Nat×Value)),sub e env→pickE env B e=some env'→sub env' env
  | [],e,hs,h=>by unfold pickE at h;cases h;exact hs
  | k::B,e,hs,h=>by
    unfold pickE at h
    split at h
    · rename_i v hl;exact bE B _ (sub_cons hl hs) h
    · cases h
theorem aD {env env':List (Nat×Value)}(e:List Nat) (h:pickE env e []=some env'):sub env' env:=bE e [] (aA _) h
theorem sk {env' env:List (Nat×Value)}(d:Nat) {v:Value}(h:lk env d=some v) (e:sub env' env):sub ((d,v)::env') env:=sub_cons h e
def evRun (ops : Array Oper) (N : Nat) : Nat → List Oper → List (Nat × Value) → Option (List (Nat × Value) × List Oper)
  | 0,os,env=>some (env,os)
  | _+1,[],_=>none
  | k+1,o::os,env=>match o.dst with
    | none=>none
    | some d=>bif Nat.blt d N then (match want ops env o.guard with
      | some true=>(match evOp env o.op with|some v=>evRun ops N k os ((d,v)::env)|none=>none)
      | some false=>evRun ops N k os ((d,undef)::env)
      | none=>none) else none
section
variable {P:Program}{N:Nat}{w0:World}{l l':List HP}{env env':List (Nat×Value)}{Q:Post}{o:Oper}{os:List Oper}
theorem fI {ops:Array Oper}{rest:List Oper}(e:List Nat) (h:pickE env e []=some env') (k:HL P N ops w0 l env' rest Q):HL P N ops w0 l env rest Q:=yR (aD e h) (.refl _) k
theorem kR (c:Code) (e:List Nat) (h:pickE env e []=some env') (k:HC P N w0 l env' c Q):HC P N w0 l env c Q:=Kq c (aD e h) (.refl _) k
theorem aS {ops : Array Oper} {rest : List Oper} : ∀ (k : Nat) {os : List Oper} {env : List (Nat × Value)}, evRun ops N k os env = some (env', rest) → HL P N ops w0 l env' rest Q → HL P N ops w0 l env os Q
  | 0,os,env,h,H=>by unfold evRun at h;cases h;exact H
  | k+1,[],env,h,H=>by unfold evRun at h;cases h
  | k+1,o::os,env,h,H=>by
    unfold evRun at h
    split at h
    · cases h
    · rename_i d hd
      cases hN:Nat.blt d N with
      | false=>rw[hN] at h;cases h
      | true=>
        rw[hN] at h
        simp only[cond_true] at h
        split at h
        · rename_i hw
          split at h
          · rename_i v hv
            exact kC hd hN hw (aU hv) (aS k h H)
          · cases h
        · rename_i hw
          exact Ko hd hN hw (aS k h H)
        · cases h
theorem aZ {R:Value→List HP→Prop}(e:sub env' env) (h:RunQ P N w0 l env' o R):RunQ P N w0 l env o R:=bC e (.refl _) h
theorem lO {v u:Value}(h:RunV P N w0 l env o v) (e:v=u):RunQ P N w0 l env o (fun x p=>x=u∧p=[]):=e▸aK h
theorem zV {b c:Bool}(h:RunV P N w0 l env o (.bool b)) (e:b=c):RunQ P N w0 l env o (fun v p=>v=.bool c∧p=[]):=e▸aK h
theorem iP {b c:Bool}(h:RunQ P N w0 l env o (fun v p=>v=.bool b∧p=[])) (e:b=c):RunQ P N w0 l env o (fun v p=>v=.bool c∧p=[]):=e▸h
def envV (dsts:List Nat) (vals:List Value) (is:List Nat):List (Nat×Value):=is.map fun i=>(dsts.getD i 0,vals.getD i undef)
def ObV (P:Program) (ops:Array Oper) (N:Nat) (w0:World) (l:List HP) (env:List (Nat×Value)) (o:Oper) (v:Value):Prop:=
  (want ops env o.guard=some true∧RunQ P N w0 l env o (fun u p=>u=v∧p=[]))∨(want ops env o.guard=some false∧v=undef)
def DuesV (P:Program) (ops:Array Oper) (N:Nat) (w0:World) (l:List HP) (env:List (Nat×Value)) (dsts:List Nat) (vals:List Value):Nat→List (List Nat)→List Oper→Prop
  | _,_,[]=>True
  | k,[],o::os=>ObV P ops N w0 l env o (vals.getD k undef)∧DuesV P ops N w0 l env dsts vals (k+1) [] os
  | k,ds::dps,o::os=>ObV P ops N w0 l (envV dsts vals ds++env) o (vals.getD k undef)∧DuesV P ops N w0 l env dsts vals (k+1) dps os
theorem Eb {ops:Array Oper}{v:Value}(h:ObV P ops N w0 l env o v):Obl P ops N w0 l env o (fun u p=>u=v∧p=[]):=by
  rcases h with h|⟨h1,h2⟩
  · exact .inl h
  · exact .inr ⟨h1,h2.symm,rfl⟩
theorem sA {ops:Array Oper}{dsts:List Nat}{e:List Value}{B:List (List Nat)}:∀(os:List Oper) (dps:List (List Nat)) (k:Nat),DuesV P ops N w0 l env dsts e k dps os→Dues P ops N w0 l env dsts B (fun i _ v p=>v=e.getD i undef∧p=[]) k dps os
  | [],_,_,_=>by unfold Dues;trivial
  | o::os,[],k,h=>⟨fun _ _=>Eb h.1,sA os [] (k+1) h.2⟩
  | o::os,ds::dps,k,h=>by
    refine⟨fun vf G E=>?_,sA os dps (k+1) h.2⟩
    have J:ds.flatMap G=[]:=List.flatMap_eq_nil_iff.2 (fun j D=>(E j D).2)
    have K:envOf dsts vf ds=envV dsts e ds:=List.map_congr_left (fun j D=>by rw[(E j D).1])
    rw[J,K,nil_append]
    exact Eb h.1
end
def BRow (k:IntKind) (w:World) (a:Option Addr) (len cap:Nat) (zs:List Int):Prop:=
  (a=none∧len=0∧cap=0∧zs=[])∨
  ∃x,a=some x∧len≤cap∧cap≤maxLen∧zs.length=cap∧(∀i,i<zs.length→w.cell? (x.add i)=some (.int k (zs.getD i 0)))∧∀n∈zs,(Lit.int k n).wf=true
def cod (z:List Int) (len i:Nat):Nat:=if len=0 then 0 else (z.getD ((i*5+1) % len) 0).toNat
theorem Iv {n:Int}(h:(Lit.int .u8 n).wf=true):0≤n∧n≤255:=by
  simp[Lit.wf,IntKind.min,IntKind.max,IntKind.signed,IntKind.bits] at h;omega
theorem BRow.len_le {k w a len cap zs}(h:BRow k w a len cap zs):len≤9223372036854775807:=by
  rcases h with⟨_,rfl,_⟩|⟨_,_,h1,h2,_⟩
  · omega
  · unfold maxLen at h2;omega
theorem BRow.at_facts {w a len cap zs}(h:BRow .u8 w a len cap zs) (hl:0<len) (j:Nat) (hj:j<len) :
    ∃b off,a=some ⟨b,off,none⟩∧w.cell? ⟨b,off+j,none⟩=some (.int .u8 (zs.getD j 0))∧0≤zs.getD j 0∧zs.getD j 0≤255:=by
  rcases h with⟨_,rfl,_⟩|⟨x,rfl,h1,h2,h3,h4,h5⟩
  · omega
  · obtain ⟨b, off, rfl, hc⟩ := ints_at h4 (by omega)
    refine⟨b,off,rfl,hc j (by omega),Iv (h5 _ ?_)⟩
    exact Il (by omega)
theorem cod_le {w a len cap zs}(h:BRow .u8 w a len cap zs) (i:Nat):cod zs len i≤255:=by
  unfold cod
  split
  · omega
  · rename_i h0
    obtain⟨b,off,_,_,h2,h3⟩:=h.at_facts (by omega) ((i*5+1) % len) (Nat.mod_lt _ (by omega))
    omega
theorem La (a:Option Addr) (B D:Nat) (w:World) (h:B≤9223372036854775807) :
    Calls Tryz.prog 4 #[.slice a B D] w fun e E=>e=.returned (.bool (decide (1048576<B)))∧w=E:=by
  go_enter Tryz.func4,Tryz.ntmps4
  go_wp2
  go_ret
  exact⟨fD (by rw[Bool.eq_iff_iff];simp;omega),rfl⟩
theorem Ky (z:List Int) (e i:Nat) (h:0<e):cod z e i=(z.getD ((i*5+1) % e) 0).toNat:=if_neg O
theorem at_any (a:Option Addr) (len cap:Nat) (z:List Int) (w:World) (h:BRow .u8 w a len cap z) (i:Nat) (hi:i≤1000000) :
    Calls Tryz.prog 11 #[.slice a len cap,.int .i64 (i:Int)] w fun e w'=>e=.returned (.int .i64 (cod z len i:Nat))∧w=w':=by
  have hlen:=h.len_le
  by_cases h0:len=0
  · subst h0
    clear h
    go_enter Tryz.func11,Tryz.ntmps11
    go_wp2
    go_ret
    exact⟨rfl,rfl⟩
  · have hp : 0 < len := by omega
    have hm:(i*5+1) % len<len:=Nat.mod_lt _ hp
    obtain⟨b,off,rfl,hc,r1,r2⟩:=h.at_facts hp ((i*5+1) % len) hm
    have hcod:=Lib.hid (Ky z len i hp)
    have h1:((len:Int)==0)=false:=by simp;omega
    have e1:((i:Int)*5+1) % (len:Int)=(((i*5+1) % len:Nat):Int):=by rw[Int.natCast_emod];rfl
    clear h h0
    generalize (i*5+1) % len=j at *
    generalize z.getD j 0=v at *
    go_enter Tryz.func11,Tryz.ntmps11
    go_wp2
    go_ret
    exact⟨fE (by rw[hcod.out];omega),rfl⟩
def i64ok (x:Int):Prop:=-9223372036854775808≤x∧x≤9223372036854775807
def IntS (w:World) (a:Option Addr) (n cap:Nat) (xs:List Int):Prop:=
  n=xs.length∧n≤9223372036854775807∧(∀x∈xs,i64ok x)∧
  (0<n→∃b off,a=some ⟨b,off,none⟩∧b<w.heap.size∧∀j,j<n→w.cell? ⟨b,off+j,none⟩=some (.int .i64 (xs.getD j 0)))
theorem xF (x m:Int) (h:0≤m) (D:m≤4611686018427387904):0≤bits BinOp.and IntKind.i64 x m∧bits BinOp.and IntKind.i64 x m≤m:=by
  obtain⟨k,rfl⟩:=Int.eq_ofNat_of_zero_le h
  have e:(BitVec.ofInt 64 (k:Int)).toNat=k:=by rw[BitVec.ofInt_natCast,BitVec.toNat_ofNat];omega
  have B:(BitVec.ofInt 64 x&&& BitVec.ofInt 64 (k:Int)).toNat≤k:=by
    rw[BitVec.toNat_and,e];exact Nat.and_le_right
  have:bits BinOp.and IntKind.i64 x (k:Int)=IntKind.i64.wrap (((BitVec.ofInt 64 x&&& BitVec.ofInt 64 (k:Int)).toNat:Nat):Int):=rfl
  rw[this,IntKind.wrap_i64]
  omega
theorem BRow.zlen {k w a len cap zs}(h:BRow k w a len cap zs):len≤zs.length:=by
  rcases h with⟨_,rfl,_,rfl⟩|⟨_,_,h1,_,h3,_⟩
  · exact Nat.le_refl _
  · omega
def Cur (w:World) (B g:Nat) (a:Option Addr) (len cap:Nat) (z:List Int):Prop:=
  (∃i:Nat,i≤len∧w.cell? ⟨g,1,none⟩=some (.int .i64 (i:Int)))∧(∃h:Int,w.cell? ⟨g,2,none⟩=some (.int .i64 h))∧
  w.cell? ⟨g,0,none⟩=some (.slice a len cap)∧w.frozen? ⟨g,1,none⟩=false∧w.frozen? ⟨g,2,none⟩=false∧BRow .u8 w a len cap z∧B≤g∧(∀x,a=some x→0<z.length→x.block<B)
theorem BRow.grown {k w w1 a len cap zs}{e:Option Nat}(h:BRow k w a len cap zs) (D:w.grownBy w1 e) (B:∀x,a=some x→0<zs.length→some x.block≠e):BRow k w1 a len cap zs:=by
  rcases h with h|⟨x,rfl,h1,h2,h3,h4,h5⟩
  · exact .inl h
  · exact .inr ⟨x,rfl,h1,h2,h3,fun i E=>D.cell (h4 i E) (by have:=B x rfl O;unfold Addr.add;split<;>simpa using this),h5⟩
theorem gV {w E G:World}{e:Option Nat}(h:w.grownBy E e) (B:E.grownBy G e):w.grownBy G e:=
  ⟨B.os.trans h.os,B.tape.trans h.tape,B.output.trans h.output,Nat.le_trans h.size B.size,fun k J D=>(B.block k (Nat.lt_of_lt_of_le J h.size) D).trans (h.block k J D)⟩
theorem lK (w:World) (g o:Nat) (v:Value):w.grownBy (w.setCell ⟨g,o,none⟩ v) (some g):=
  ⟨rfl,rfl,rfl,by simp[World.setCell],fun k _ e=>Below.heap_setCell w _ v k (fun h=>e (by rw[h]))⟩
theorem kA (w:World) (n:Nat) (e:Option Nat):w.grownBy (w.drewN n) e:=⟨rfl,rfl,rfl,Nat.le_refl _,fun _ _ _=>rfl⟩
theorem vB {w B:World}(h:Below w.heap.size w B) (e:Option Nat):w.grownBy B e:=⟨h.os,h.tape,h.output,h.size,fun k D _=>h.block k D⟩
def RetLt (n:Nat) (e:Ending):Prop:=∃x:Nat,x<n∧e=.returned (.int .i64 (x:Int))
theorem RetLt.of_and (x:Int):RetLt 256 (.returned (.int .i64 (bits BinOp.and IntKind.i64 x 255))):=by
  obtain⟨e,h⟩:=xF x 255 O O
  exact⟨(bits BinOp.and IntKind.i64 x 255).toNat,O,fE O⟩
theorem oH {w:World}{g o B:Nat}{v:Value}(h:o≠B):(w.setCell ⟨g,o,none⟩ v).cell? ⟨g,B,none⟩=w.cell? ⟨g,B,none⟩:=by
  apply World.cell?_setCell_other
  intro e;exact h (congrArg Addr.off e)
theorem Jo {w:World}{g o k B:Nat}{v:Value}(h:k≠g):(w.setCell ⟨k,o,none⟩ v).cell? ⟨g,B,none⟩=w.cell? ⟨g,B,none⟩:=by
  apply World.cell?_setCell_other
  intro e;exact h (congrArg Addr.block e)
theorem zS {w:World}{p:Addr}{u v:Value}(h:w.cell? p=some u):(w.setCell p v).cell? p=some v:=by
  apply World.cell?_setCell_same;exact h
theorem Ll {w:World}{B g:Nat}{a:Option Addr}{e D:Nat}{z:List Int}{i:Nat}(hi:i≤e) (J:w.cell? ⟨g,1,none⟩=some (.int .i64 (i:Int))) {h:Int}(K:w.cell? ⟨g,2,none⟩=some (.int .i64 h))
    (M:w.cell? ⟨g,0,none⟩=some (.slice a e D)) (U:w.frozen? ⟨g,1,none⟩=false) (X:w.frozen? ⟨g,2,none⟩=false) (E:BRow .u8 w a e D z) (Y:B≤g) (G:∀x,a=some x→0<z.length→x.block<B) (Z:Int) (n:Nat) :
    Cur ((w.setCell ⟨g,2,none⟩ (.int .i64 Z)).drewN n) B g a e D z:=by
  refine⟨⟨i,hi,?_⟩,⟨Z,?_⟩,?_,?_,?_,?_,Y,G⟩
  · rw[World.cell?_drewN,oH V];exact J
  · rw[World.cell?_drewN,zS K]
  · rw[World.cell?_drewN,oH V];exact M
  · exact(World.frozen?_setCell ..).trans U
  · exact(World.frozen?_setCell ..).trans X
  · exact(E.grown (lK w g 2 _) (fun x hx hp=>by have:=G x hx hp;simp;omega)).grown (kA _ n none) (fun _ _ _=>AI)
theorem cur_i {w:World}{B g:Nat}{a:Option Addr}{e D:Nat}{z:List Int}(Z:Cur w B g a e D z) {i:Nat}(hi:i<e):Cur (w.setCell ⟨g,1,none⟩ (.int .i64 ((i:Int)+1))) B g a e D z:=by
  obtain⟨⟨j,hj,J⟩,⟨h,K⟩,M,U,X,E,Y,G⟩:=Z
  refine⟨⟨i+1,hi,?_⟩,⟨h,?_⟩,?_,?_,?_,?_,Y,G⟩
  · rw[zS J];rfl
  · rw[oH V];exact K
  · rw[oH V];exact M
  · exact(World.frozen?_setCell ..).trans U
  · exact(World.frozen?_setCell ..).trans X
  · exact E.grown (lK w g 1 _) (fun x hx hp=>by have:=G x hx hp;simp;omega)
theorem Gf {w:World}{B g:Nat}{a:Option Addr}{e h:Nat}{z:List Int}(D:Cur w B g a e h z) (n:Nat):Cur (w.drewN n) B g a e h z:=by
  obtain⟨E,G,J,K,M,U,X,Y⟩:=D
  exact⟨E,G,J,K,M,U.grown (kA _ n none) (fun _ _ _=>AI),X,Y⟩
theorem sN (B g:Nat) (a:Option Addr) (len cap:Nat) (z:List Int) (w:World) (hc:Cur w B g a len cap z) :
    Calls Tryz.prog 81 #[.pointer (some ⟨g,0,none⟩)] w fun e w'=>RetLt 256 e∧Cur w' B g a len cap z∧w.grownBy w' (some g):=by
  obtain⟨⟨i,hi,hci⟩,⟨h,hch⟩,hcb,hf1,hf2,hrow,hBg,hne⟩:=hc
  have hlen:=hrow.len_le
  by_cases hlt:i<len
  · obtain ⟨b, off, rfl, hcell, r1, r2⟩ := hrow.at_facts (by omega) i hlt
    have hzl:=hrow.zlen
    have hnb:b≠g:=by have:b<B:=hne _ rfl (by omega);omega
    have Hrow:=Lib.hid hrow
    have Hne:=Lib.hid hne
    clear hrow hne
    generalize z.getD i 0=v at *
    go_enter Tryz.func81,Tryz.ntmps81
    go_wp2
    generalize wrap64 (wrap64 (h*6364136223846793005)+1442695040888963407)=h' at *
    go_quiet (fail)
    go_wp2
    go_quiet (fail)
    go_wp2
    go_quiet (fail)
    go_wp2
    go_ret
    refine⟨RetLt.of_and _,?_,?_⟩
    · refine cur_i ?_ hlt
      exact Ll hi hci hch hcb hf1 hf2 Hrow.out hBg Hne.out _ _
    · exact gV (gV (lK w g 2 _) (kA _ _ _)) (lK _ g 1 _)
  · have hil : i = len := by omega
    subst hil
    have Hrow:=Lib.hid hrow
    have Hne:=Lib.hid hne
    clear hrow hne hlt
    go_enter Tryz.func81,Tryz.ntmps81
    go_wp2
    generalize wrap64 (wrap64 (h*6364136223846793005)+1442695040888963407)=h' at *
    go_quiet (fail)
    go_wp2
    go_quiet (fail)
    go_wp2
    go_ret
    exact⟨RetLt.of_and _,Gf (Ll hi hci hch hcb hf1 hf2 Hrow.out hBg Hne.out _ _) _,gV (gV (lK w g 2 _) (kA _ _ _)) (kA _ _ _)⟩
theorem jV (B g:Nat) (a:Option Addr) (h D:Nat) (z:List Int) (n:Int) (M:1≤n) (U:n≤256) (w:World) (E:Cur w B g a h D z) :
    Calls Tryz.prog 47 #[.pointer (some ⟨g,0,none⟩),.int .i64 n] w fun e G=>RetLt n.toNat e∧Cur G B g a h D z∧w.grownBy G (some g):=by
  have C:=Lib.hid (sN B g a h D z w E)
  clear E
  go_enter Tryz.func47,Tryz.ntmps47
  go_wp2_with fail
  refine C.out.mono ?_
  rintro e w1 ⟨⟨x,hx,rfl⟩,hc1,hg1⟩
  have J:=Lib.hid hc1
  have K:=Lib.hid hg1
  clear hc1 hg1
  go_wp2
  go_ret
  refine⟨⟨((x:Int) % n).toNat,?_,fE ?_⟩,J.out,K.out⟩
  · have:=Int.emod_lt_of_pos (x:Int) (show 0<n by omega);omega
  · have:=Int.emod_nonneg (x:Int) (show n≠0 by omega);omega
def RetBool (e:Ending):Prop:=∃b:Bool,e=.returned (.bool b)
theorem sM (B g:Nat) (a:Option Addr) (h D:Nat) (z:List Int) (n:Int) (J:1≤n) (K:n≤256) (w:World) (E:Cur w B g a h D z) :
    Calls Tryz.prog 44 #[.pointer (some ⟨g,0,none⟩),.int .i64 n] w fun e G=>RetBool e∧Cur G B g a h D z∧w.grownBy G (some g):=by
  have C:=Lib.hid (jV B g a h D z n J K w E)
  clear E
  go_enter Tryz.func44,Tryz.ntmps44
  go_wp2_with fail
  refine C.out.mono ?_
  rintro e w1 ⟨⟨x,hx,rfl⟩,hc1,hg1⟩
  have M:=Lib.hid hc1
  have U:=Lib.hid hg1
  clear hc1 hg1
  go_wp2
  go_ret
  exact⟨⟨_,rfl⟩,M.out,U.out⟩
theorem BRow.below {k w w1 a len cap zs}(h:BRow k w a len cap zs) (e:Below w.heap.size w w1):BRow k w1 a len cap zs:=h.grown (vB e none) (fun _ _ _=>AI)
theorem BRow.old {k w a len cap zs}(h:BRow k w a len cap zs):∀x,a=some x→0<zs.length→x.block<w.heap.size:=by
  rcases h with⟨rfl,_⟩|⟨x,rfl,h1,h2,h3,h4,h5⟩
  · intro x hx;cases hx
  · intro y hy hp
    cases hy
    have:=h4 0 hp
    have e:x.add 0=x:=by simp[Addr.add]
    rw[e] at this
    exact World.block_lt_of_cell? _ _ this
theorem Ec {a:Option Addr}{len cap:Nat}{z:List Int}(w:World) (hb:BRow .u8 w a len cap z) (h:Int) :
    ∃ g, Ending.returned (.pointer (some ⟨w.heap.size, 0, none⟩)) = .returned (.pointer (some ⟨g, 0, none⟩)) ∧
      Cur (w.alloc (.cells #[.slice a len cap,.int .i64 0,.int .i64 h] 78)) w.heap.size g a len cap z∧Below w.heap.size w (w.alloc (.cells #[.slice a len cap,.int .i64 0,.int .i64 h] 78)):=by
  refine⟨_,rfl,⟨⟨0,by omega,?_⟩,⟨h,?_⟩,?_,?_,?_,hb.below (eO (Below.refl _ _) _),Nat.le_refl _,?_⟩,eO (Below.refl _ _) _⟩
  · rw[World.cell?_alloc_at _ _ _ _ rfl];rfl
  · rw[World.cell?_alloc_at _ _ _ _ rfl];rfl
  · rw[World.cell?_alloc_at _ _ _ _ rfl];rfl
  · exact World.frozen?_alloc_at _ _ _ _ rfl
  · exact World.frozen?_alloc_at _ _ _ _ rfl
  · intro x hx hp
    exact hb.old x hx hp
theorem Cz (a : Option Addr) (len cap : Nat) (z : List Int) (w : World) (hlen : len ≤ 1048576) (hb : BRow .u8 w a len cap z) :
    Calls Tryz.prog 18 #[.slice a len cap] w fun e w'=>∃g,e=.returned (.pointer (some ⟨g,0,none⟩))∧Cur w' w.heap.size g a len cap z∧Below w.heap.size w w':=by
  go_enter Tryz.func18,Tryz.ntmps18
  go_wp2
  go_loop [3,4] (fun h i=>∃(k:Nat) (x:Int),k≤len∧i=.int .i64 (k:Int)∧h=.int .i64 x∧0≤x∧x≤1073741823) (fun _ i=>len-(intOf i).toNat)
  case atStart=>exact⟨0,33117+(len:Int),by omega,rfl,rfl,by omega,by omega⟩
  case round=>
    obtain⟨k,x,hk,rfl,rfl,x0,x1⟩:=hrel
    by_cases hlt:k<len
    · by_cases h4 : k < 4000
      · obtain ⟨b, off, rfl, hcell, r1, r2⟩ := hb.at_facts (by omega) k hlt
        have Hb:=Lib.hid hb
        clear hb
        generalize z.getD k 0=v at *
        go_wp2
        have hr:=xF (x*131+v+7) 1073741823 (by omega) (by omega)
        go_round
        case rel=>exact⟨k+1,_,by omega,by go_num,rfl,hr.1,hr.2⟩
        case measure=>simp[intOf];omega
      · have hT : decide ((k : Int) < 4000) = false := by simp; omega
        have Hb:=Lib.hid hb
        clear hb
        go_wp2
        go_ret
        exact Ec w Hb.out _
    · have hT : decide ((k : Int) < (len : Int)) = false := by simp; omega
      have Hb:=Lib.hid hb
      clear hb
      go_wp2
      go_ret
      exact Ec w Hb.out _
theorem Cur.lt {w:World}{B g:Nat}{a:Option Addr}{e D:Nat}{z:List Int}(h:Cur w B g a e D z):g<w.heap.size:=World.block_lt_of_cell? _ _ h.2.2.1
theorem Cur.base {w:World}{B g:Nat}{a:Option Addr}{e D:Nat}{z:List Int}(h:Cur w B g a e D z):B≤g:=h.2.2.2.2.2.2.1
theorem Cur.grown {w G:World}{B g:Nat}{a:Option Addr}{D E:Nat}{z:List Int}{e:Option Nat}(h:Cur w B g a D E z) (M:w.grownBy G e) (Z:some g≠e) (h2:∀k,e=some k→B≤k):Cur G B g a D E z:=by
  have J:=h.lt
  have U:=M.block g J Z
  have K:∀o,G.cell? ⟨g,o,none⟩=w.cell? ⟨g,o,none⟩:=fun o=>World.cell?_of_block (a:=⟨g,o,none⟩) U
  have X:∀o,G.frozen? ⟨g,o,none⟩=w.frozen? ⟨g,o,none⟩:=fun o=>World.frozen?_of_block (a:=⟨g,o,none⟩) U
  obtain⟨⟨i,hi,c1⟩,⟨x,c2⟩,c0,f1,f2,hr,hB,Y⟩:=h
  refine⟨⟨i,hi,(K 1).trans c1⟩,⟨x,(K 2).trans c2⟩,(K 0).trans c0,(X 1).trans f1,(X 2).trans f2,hr.grown M (fun x hx hp=>?_),hB,Y⟩
  cases e with
  | none=>simp
  | some k=>have:=h2 k rfl;have:=Y x hx hp;simp;omega
theorem Cur.alloc {w:World}{B g:Nat}{a:Option Addr}{e D:Nat}{z:List Int}(h:Cur w B g a e D z) (o:Obj):Cur (w.alloc o) B g a e D z:=
  h.grown (World.grownBy_alloc w o none) AI AI
theorem Cur.set {w:World}{B g:Nat}{a:Option Addr}{D E:Nat}{z:List Int}(h:Cur w B g a D E z) {k o:Nat}(G:k≠g) (J:B≤k) (v:Value):Cur (w.setCell ⟨k,o,none⟩ v) B g a D E z:=
  h.grown (lK w k o v) (by simpa using fun e:g=k=>G e.symm) (by intro j K;cases K;exact J)
theorem iX {w B:World}{e:Option Nat}(h:w.grownBy B e) {k o:Nat}(G:w.heap.size≤k) (v:Value):w.grownBy (B.setCell ⟨k,o,none⟩ v) e:=
  ⟨h.os,h.tape,h.output,by have:=h.size;simpa [World.setCell] using this,fun j E D=>(Below.heap_setCell B _ v j (by simp;omega)).trans (h.block j E D)⟩
theorem Ay {w B:World}{e:Option Nat}(h:w.grownBy B e) (o:Obj):w.grownBy (B.alloc o) e:=gV h (World.grownBy_alloc B o e)
theorem Az {w B:World}{g:Nat}(D:w.grownBy B (some g)):(∀b o,b<w.heap.size→b≠g→B.cell? ⟨b,o,none⟩=w.cell? ⟨b,o,none⟩)∧(∀b o,b<w.heap.size→b≠g→B.frozen? ⟨b,o,none⟩=w.frozen? ⟨b,o,none⟩)∧w.heap.size≤B.heap.size:=
  ⟨fun b o h e=>World.cell?_of_block (a:=⟨b,o,none⟩) (D.block b h (by simpa using e)),fun b o h e=>World.frozen?_of_block (a:=⟨b,o,none⟩) (D.block b h (by simpa using e)),D.size⟩
structure Dev where
  W:Int
  H:Int
  T:Int
  R:Int
def devB (d:Dev):Bool:=inR d.W 3 6&&inR d.H 3 6&&inR d.T 1 4&&(d.R==-1||inR d.R 1 (d.W-2))
theorem dI (d:Dev):devB d=true↔(3≤d.W∧d.W≤6)∧(3≤d.H∧d.H≤6)∧(1≤d.T∧d.T≤4)∧(d.R = -1∨(1≤d.R∧d.R≤d.W-2)):=by
  unfold devB;simp[dA,and_eq_true,and_assoc]
theorem eD (d:Dev) (w:World) :
    Calls Tryz.prog 20 #[.agg #[.int .i64 d.W,.int .i64 d.H,.int .i64 d.T,.int .i64 d.R]] w fun e w'=>e=.returned (.bool (devB d))∧Below w.heap.size w w':=by
  obtain⟨W,H,T,R⟩:=d
  simp only
  rcases eq_false_or_eq_true (inR W 3 6) with h1|h1
  rotate_left
  · have hf := Lib.hid (show devB ⟨W, H, T, R⟩ = false by simp [devB, h1])
    go_enter Tryz.func20,Tryz.ntmps20
    go_wp2_with (go_at_call 51;refine(cS _ _ _ _).mono ?_;rintro e w' ⟨rfl,rfl⟩)
    go_ret
    exact⟨fD hf.out.symm,(Below.refl _ _).alloc (Nat.le_refl _) _⟩

  rcases eq_false_or_eq_true (inR H 3 6) with h2|h2
  rotate_left
  · have hf := Lib.hid (show devB ⟨W, H, T, R⟩ = false by simp [devB, h2])
    go_enter Tryz.func20,Tryz.ntmps20
    go_wp2_with (go_at_call 51;refine(cS _ _ _ _).mono ?_;rintro e w' ⟨rfl,rfl⟩)
    go_ret
    exact⟨fD hf.out.symm,(Below.refl _ _).alloc (Nat.le_refl _) _⟩

  rcases eq_false_or_eq_true (inR T 1 4) with h3|h3
  rotate_left
  · have hf := Lib.hid (show devB ⟨W, H, T, R⟩ = false by simp [devB, h3])
    go_enter Tryz.func20,Tryz.ntmps20
    go_wp2_with (go_at_call 51;refine(cS _ _ _ _).mono ?_;rintro e w' ⟨rfl,rfl⟩)
    go_ret
    exact⟨fD hf.out.symm,(Below.refl _ _).alloc (Nat.le_refl _) _⟩

  obtain⟨hw1,hw2⟩:=(dA _ _ _).1 h1
  rcases eq_false_or_eq_true (R==-1) with h4|h4
  · have hf := Lib.hid (show devB ⟨W, H, T, R⟩ = true by simp [devB, h1, h2, h3, h4])
    go_enter Tryz.func20,Tryz.ntmps20
    go_wp2_with (go_at_call 51;refine(cS _ _ _ _).mono ?_;rintro e w' ⟨rfl,rfl⟩)
    go_ret
    exact⟨fD hf.out.symm,(Below.refl _ _).alloc (Nat.le_refl _) _⟩

  · have hf := Lib.hid (show devB ⟨W, H, T, R⟩ = inR R 1 (W - 2) by simp [devB, h1, h2, h3, h4])
    go_enter Tryz.func20,Tryz.ntmps20
    go_wp2_with (go_at_call 51;refine(cS _ _ _ _).mono ?_;rintro e w' ⟨rfl,rfl⟩)
    go_ret
    exact⟨fD hf.out.symm,(Below.refl _ _).alloc (Nat.le_refl _) _⟩
theorem eT (d:Dev) (w:World) :
    Calls Tryz.prog 28 #[.agg #[.int .i64 d.W,.int .i64 d.H,.int .i64 d.T,.int .i64 d.R]] w fun e w'=>e=.returned (.bool (devB d))∧Below w.heap.size w w':=by
  obtain⟨W,H,T,R⟩:=d
  simp only
  rcases eq_false_or_eq_true (inR W 3 6) with h1|h1
  rotate_left
  · have hf := Lib.hid (show devB ⟨W, H, T, R⟩ = false by simp [devB, h1])
    go_enter Tryz.func28,Tryz.ntmps28
    go_wp2_with (go_at_call 58;refine(cX _ _ _ _).mono ?_;rintro e w' ⟨rfl,rfl⟩)
    go_ret
    exact⟨fD hf.out.symm,(Below.refl _ _).alloc (Nat.le_refl _) _⟩

  rcases eq_false_or_eq_true (inR H 3 6) with h2|h2
  rotate_left
  · have hf := Lib.hid (show devB ⟨W, H, T, R⟩ = false by simp [devB, h2])
    go_enter Tryz.func28,Tryz.ntmps28
    go_wp2_with (go_at_call 58;refine(cX _ _ _ _).mono ?_;rintro e w' ⟨rfl,rfl⟩)
    go_ret
    exact⟨fD hf.out.symm,(Below.refl _ _).alloc (Nat.le_refl _) _⟩

  rcases eq_false_or_eq_true (inR T 1 4) with h3|h3
  rotate_left
  · have hf := Lib.hid (show devB ⟨W, H, T, R⟩ = false by simp [devB, h3])
    go_enter Tryz.func28,Tryz.ntmps28
    go_wp2_with (go_at_call 58;refine(cX _ _ _ _).mono ?_;rintro e w' ⟨rfl,rfl⟩)
    go_ret
    exact⟨fD hf.out.symm,(Below.refl _ _).alloc (Nat.le_refl _) _⟩

  obtain⟨hw1,hw2⟩:=(dA _ _ _).1 h1
  rcases eq_false_or_eq_true (R==-1) with h4|h4
  · have hf := Lib.hid (show devB ⟨W, H, T, R⟩ = true by simp [devB, h1, h2, h3, h4])
    go_enter Tryz.func28,Tryz.ntmps28
    go_wp2_with (go_at_call 58;refine(cX _ _ _ _).mono ?_;rintro e w' ⟨rfl,rfl⟩)
    go_ret
    exact⟨fD hf.out.symm,(Below.refl _ _).alloc (Nat.le_refl _) _⟩

  · have hf := Lib.hid (show devB ⟨W, H, T, R⟩ = inR R 1 (W - 2) by simp [devB, h1, h2, h3, h4])
    go_enter Tryz.func28,Tryz.ntmps28
    go_wp2_with (go_at_call 58;refine(cX _ _ _ _).mono ?_;rintro e w' ⟨rfl,rfl⟩)
    go_ret
    exact⟨fD hf.out.symm,(Below.refl _ _).alloc (Nat.le_refl _) _⟩
def Drawn (d:Dev):Prop:=3≤d.W∧d.W≤5∧3≤d.H∧d.H≤5∧1≤d.T∧d.T≤4∧(d.R = -1∨(1≤d.R∧d.R≤d.W-2))
theorem Drawn.ok {d:Dev}(h:Drawn d):devB d=true:=by
  unfold Drawn at h
  rw[dI];omega
theorem Ir {e h B:Nat}(D:e<3) (E:h<3) (G:B<4):Drawn ⟨3+(e:Int),3+(h:Int),1+(B:Int), -1⟩:=by
  refine⟨?_,?_,?_,?_,?_,?_,.inl rfl⟩<;>dsimp only<;>omega
theorem Ge {e h B D:Nat}(E:e<3) (G:h<3) (J:B<4) (K:D<e+1):Drawn ⟨3+(e:Int),3+(h:Int),1+(B:Int),1+(D:Int)⟩:=by
  refine⟨?_,?_,?_,?_,?_,?_,.inr ⟨?_,?_⟩⟩<;>dsimp only<;>omega
def RetDev (e:Ending):Prop:=∃d:Dev,Drawn d∧e=.returned (.agg #[.int .i64 d.W,.int .i64 d.H,.int .i64 d.T,.int .i64 d.R])
theorem vZ (B g:Nat) (a:Option Addr) (len cap:Nat) (z:List Int) (w:World) (hc:Cur w B g a len cap z) :
    Calls Tryz.prog 100 #[.pointer (some ⟨g,0,none⟩)] w fun e w'=>RetDev e∧Cur w' B g a len cap z∧w.grownBy w' (some g):=by
  have hgl:=hc.lt
  have hBg:=hc.base
  have C:=Lib.hid (hc.alloc (.cells #[.int .i64 0,.int .i64 0,.int .i64 0,.int .i64 0] 25))
  clear hc
  go_enter Tryz.func100,Tryz.ntmps100
  go_wp2_with fail
  refine(jV B g a len cap z 3 (by omega) (by omega) _ C.out).mono ?_
  rintro e w1 ⟨⟨x1,hx1,rfl⟩,hc1,hg1⟩
  obtain⟨e1,f1,s1⟩:=Az hg1
  have C1:=Lib.hid hc1
  have G1:=Lib.hid hg1
  clear hc1 hg1
  go_wp2_with fail
  refine(jV B g a len cap z 3 (by omega) (by omega) _ C1.out).mono ?_
  rintro e w2 ⟨⟨x2,hx2,rfl⟩,hc2,hg2⟩
  obtain⟨e2,f2,s2⟩:=Az hg2
  have C2:=Lib.hid hc2
  have G2:=Lib.hid hg2
  clear hc2 hg2
  go_wp2_with fail
  refine(jV B g a len cap z 4 (by omega) (by omega) _ C2.out).mono ?_
  rintro e w3 ⟨⟨x3,hx3,rfl⟩,hc3,hg3⟩
  obtain⟨e3,f3,s3⟩:=Az hg3
  have C3:=Lib.hid hc3
  have G3:=Lib.hid hg3
  clear hc3 hg3
  go_wp2_with fail
  refine(sM B g a len cap z 2 (by omega) (by omega) _ (C3.out.alloc _)).mono ?_
  rintro e w4 ⟨⟨bb,rfl⟩,hc4,hg4⟩
  obtain⟨e4,f4,s4⟩:=Az hg4
  have C4:=Lib.hid hc4
  have G4:=Lib.hid hg4
  clear hc4 hg4
  have q1:w.heap.size<w1.heap.size:=by rw[gR] at s1;omega
  have q2:w.heap.size<w2.heap.size:=by omega
  have q3:w.heap.size<w3.heap.size:=by omega
  have q4:w3.heap.size<w4.heap.size:=by rw[gR] at s4;omega
  have q5:w.heap.size<w4.heap.size:=by omega
  have n1:w.heap.size≠g:=by omega
  have n3:w3.heap.size≠g:=by omega
  clear s1 s2 s3 s4
  have r:∀j,w4.cell? ⟨w.heap.size,j,none⟩=(#[Value.int IntKind.i64 0,Value.int IntKind.i64 0,Value.int IntKind.i64 0,Value.int IntKind.i64 0]:Array Value)[j]?:=fun j=>
    (e4 _ _ (by rw[gR];omega) n1).trans ((World.cell?_alloc_past _ _ _ (by omega)).trans ((e3 _ _ q2 n1).trans ((e2 _ _ q1 n1).trans ((e1 _ _ (by rw[gR];omega) n1).trans (World.cell?_alloc_at _ _ _ _ rfl)))))
  have r0:w4.cell? ⟨w.heap.size,0,none⟩=some (.int .i64 0):=r 0
  have r1:w4.cell? ⟨w.heap.size,1,none⟩=some (.int .i64 0):=r 1
  have r2:w4.cell? ⟨w.heap.size,2,none⟩=some (.int .i64 0):=r 2
  have r3:w4.cell? ⟨w.heap.size,3,none⟩=some (.int .i64 0):=r 3
  have s:∀j,w4.cell? ⟨w3.heap.size,j,none⟩=(#[Value.int IntKind.i64 (3+(x1:Int)),Value.int IntKind.i64 (3+(x2:Int)),Value.int IntKind.i64 (1+(x3:Int)),Value.int IntKind.i64 (-1)]:Array Value)[j]?:=fun j=>
    (e4 _ _ (by rw[gR];omega) n3).trans (World.cell?_alloc_at _ _ _ _ rfl)
  have t0:w4.cell? ⟨w3.heap.size,0,none⟩=some (.int .i64 (3+(x1:Int))):=s 0
  have t1:w4.cell? ⟨w3.heap.size,1,none⟩=some (.int .i64 (3+(x2:Int))):=s 1
  have t2:w4.cell? ⟨w3.heap.size,2,none⟩=some (.int .i64 (1+(x3:Int))):=s 2
  have t3:w4.cell? ⟨w3.heap.size,3,none⟩=some (.int .i64 (-1)):=s 3
  have z0:∀j,w4.frozen? ⟨w.heap.size,j,none⟩=false:=fun j=>
    (f4 _ _ (by rw[gR];omega) n1).trans ((World.frozen?_alloc_past _ _ _ (by omega)).trans ((f3 _ _ q2 n1).trans ((f2 _ _ q1 n1).trans ((f1 _ _ (by rw[gR];omega) n1).trans (World.frozen?_alloc_at _ _ _ _ rfl)))))
  have k0:w.grownBy w4 (some g):=gV (Ay (gV (gV (gV (World.grownBy_alloc w _ _) G1.out) G2.out) G3.out) _) G4.out
  have K0:=Lib.hid k0
  clear k0 C C1 C2 C3 G1 G2 G3 G4
  cases bb
  · go_wp2
    refine bodyPost_ret (v:=.agg #[.int .i64 (3+(x1:Int)),.int .i64 (3+(x2:Int)),.int .i64 (1+(x3:Int)),.int .i64 (-1)]) (by simp[results,Tryz.results100,go_sem,r0,r1,r2,r3]) rfl ⟨⟨⟨3+(x1:Int),3+(x2:Int),1+(x3:Int), -1⟩,?_,rfl⟩,?_,?_⟩
    · exact Ir hx1 hx2 hx3
    · exact(((C4.out.set n1 (by omega) _).set n1 (by omega) _).set n1 (by omega) _).set n1 (by omega) _
    · exact iX (iX (iX (iX K0.out (Nat.le_refl _) _) (Nat.le_refl _) _) (Nat.le_refl _) _) (Nat.le_refl _) _
  · go_wp2_with fail
    refine(jV B g a len cap z _ (by omega) (by omega) _ C4.out).mono ?_
    rintro e w5 ⟨⟨x5,hx5,rfl⟩,hc5,hg5⟩
    have x5lt:x5<x1+1:=by omega
    obtain⟨e5,f5,s5⟩:=Az hg5
    have C5:=Lib.hid hc5
    have G5:=Lib.hid hg5
    have u0:=(e5 _ 0 q5 n1).trans r0
    have u1:=(e5 _ 1 q5 n1).trans r1
    have u2:=(e5 _ 2 q5 n1).trans r2
    have u3:=(e5 _ 3 q5 n1).trans r3
    have y0:=(e5 _ 0 q4 n3).trans t0
    have y1:=(e5 _ 1 q4 n3).trans t1
    have y2:=(e5 _ 2 q4 n3).trans t2
    have y3:=(e5 _ 3 q4 n3).trans t3
    have nn:w3.heap.size≠w.heap.size:=by omega
    have v0:w5.frozen? ⟨w3.heap.size,3,none⟩=false:=(f5 _ 3 q4 n3).trans ((f4 _ _ (by rw[gR];omega) n3).trans (World.frozen?_alloc_at _ _ _ _ rfl))
    have v1:∀j,w5.frozen? ⟨w.heap.size,j,none⟩=false:=fun j=>(f5 _ j q5 n1).trans (z0 j)
    clear hc5 hg5 e5 f5 r0 r1 r2 r3 t0 t1 t2 t3 z0 e1 e2 e3 e4 f1 f2 f3 f4 r s
    have n9:w.heap.size≠w3.heap.size:=by omega
    go_wp2
    refine bodyPost_ret (v:=.agg #[.int .i64 (3+(x1:Int)),.int .i64 (3+(x2:Int)),.int .i64 (1+(x3:Int)),.int .i64 (1+(x5:Int))]) (by simp[results,Tryz.results100,go_sem,Jo nn,u0,u1,u2,u3]) rfl ⟨⟨⟨3+(x1:Int),3+(x2:Int),1+(x3:Int),1+(x5:Int)⟩,Ge hx1 hx2 hx3 x5lt,rfl⟩,?_,?_⟩
    · exact((((C5.out.set n3 (by omega) _).set n1 (by omega) _).set n1 (by omega) _).set n1 (by omega) _).set n1 (by omega) _
    · exact iX (iX (iX (iX (iX (gV K0.out G5.out) (by omega) _) (Nat.le_refl _) _) (Nat.le_refl _) _) (Nat.le_refl _) _) (Nat.le_refl _) _
section
variable {P:Program}{N:Nat}{w0:World}{l l':List HP}{env:List (Nat×Value)}{Q:Post}{o:Oper}{ops:Array Oper}{rest:List Oper}
theorem bH {p:Value→Prop}:∀u∈([]:List Value),p u:=fun _ h=>by cases h
theorem aC {p:Value→Prop}{a:Value}{us:List Value}(h:p a) (B:∀u∈us,p u):∀u∈a::us,p u:=fun u e=>by
  rcases List.mem_cons.1 e with rfl|e
  · exact h
  · exact B u e
def putN (cs:Array Value) (off:Nat):List Value→Array Value
  | []=>cs
  | u::us=>putN (cs.setIfInBounds off u) (off+1) us
theorem mF {α:Type}{l:List α}{i:Nat}{p:α}(h:l[i]? = some p):l.set i p=l:=by
  apply List.ext_getElem?
  intro j
  rw[List.getElem?_set]
  split
  · rename_i e; subst e
    split
    · exact h.symm
    · rename_i hj;rw[List.getElem?_eq_none (by omega)] at h;cases h
  · rfl
theorem pH {b off:Nat}{tb:TypeId}{i:Nat}:∀(us:List Value) (k:Nat) (cs:Array Value) (l:List HP) (w:World),Mem w0 l w→l[i]? = some (boxE b cs tb)→(∀u∈us,u.oneCell'=true)→off+k+us.length≤cs.size→
    ∃w',(storeCells ⟨b,off,none⟩ us k).run P w=.ok () w'∧Mem w0 (l.set i (boxE b (putN cs (off+k) us) tb)) w'
  | [],k,cs,l,w,hm,hi,_,_=>⟨w,rfl,by rw[putN,mF hi];exact hm⟩
  | u::us,k,cs,l,w,hm,hi,h1,hlt=>by
    have hlen:(u::us).length=us.length+1:=rfl
    have hb:w.heap[b]? = some (.cells cs tb (0,0)):=hm.holds _ (cT hi)
    have hst:=run_store P w ⟨b,off+k,none⟩ u .plain (h1 u mem_cons_self)
    have hc:w.cell? ⟨b,off+k,none⟩=some (cs[off+k]'(by omega)):=by rw[gQ hb];exact Array.getElem?_eq_getElem (by omega)
    rw[hc] at hst
    simp only[lU hb] at hst
    have hil:i<l.length:=by
      rcases Nat.lt_or_ge i l.length with h|h
      · exact h
      · rw[List.getElem?_eq_none h] at hi;cases hi
    obtain⟨w',hr,hm'⟩:=pH (off:=off) us (k+1) (cs.setIfInBounds (off+k) u) (l.set i (boxE b (cs.setIfInBounds (off+k) u) tb)) (w.setCell ⟨b,off+k,none⟩ u) (hm.setBox hi (off+k) u) (List.getElem?_set_self hil) (fun x hx=>h1 x (mem_cons_of_mem _ hx)) (by rw[Array.size_setIfInBounds];omega)
    refine⟨w',?_,?_⟩
    · rw [storeCells, iY]
      simp[hst,hr]
    · rw [List.set_set] at hm'
      rw[putN];exact hm'
theorem yQ {t b off i:Nat}{x y:Operand}{cs cs':Array Value}{G:TypeId}{us:List Value}(J:o.dst=none) (K:want ops env o.guard=some true) (M:o.op=.store t x y) (U:(P.info? t).map (·.size)=some us.length)
    (X:ev env x=some (.pointer (some ⟨b,off,none⟩))) (Y:ev env y=some (.agg us.toArray)) (Z:l[i]? = some (boxE b cs G)) (h1:∀u∈us,u.oneCell'=true) (e:Nat.ble (off+us.length) cs.size=true) (h:putN cs off us=cs')
    (B:l.set i (boxE b cs' G)=l') (k:HL P N ops w0 l' env rest Q):HL P N ops w0 l env (o::rest) Q:=by
  subst B h
  exact mU J K (fun a w D=>by
    rw[Nat.ble_eq] at e
    obtain⟨w',hr,hm⟩:=pH (P:=P) (off:=off) us 0 cs l w D.mem Z h1 O
    refine⟨w',?_,hm⟩
    have E:(Value.agg us.toArray).cells=us.toArray:=rfl
    simp[execOp,M,D.eval X,D.eval Y,Instr.storeAt,Instr.sureAddr,storeVar,E,iD U,hr]) k
theorem eQ {e:Func}{R:Value→List HP→Prop}{rs:List ResultVar}{vs:List Value}{v:Value}{post:List HP}(D:e.results=rs.toArray) (E:AllIs P w0 l env rs vs) (B:tupled vs=v) (G:post.Sublist l) (h:R v post):HQ N w0 l env .ret (bodyPost P e (Ret w0 R)):=
  fU D E B (fun w J=>⟨v,post,by rw[←B],h,J.sub G⟩)
end
theorem at_ans {w0:World}{l:List HP}{a:Option Addr}{e B:Nat}{z:List Int}(h:BRow .u8 w0 a e B z) (i:Nat) (D:i≤1000000) (w:World) (E:Mem w0 l w) :
    Calls Tryz.prog 11 #[.slice a e B,.int .i64 (i:Int)] w (Ans w (.int .i64 (cod z e i:Nat))):=hH (at_any a e B z w (h.below E.bel) i D)
def bigE (ps:List HP):HP:=⟨fun k=>∃p∈ps,p.foot k,fun w=>(∀p∈ps,p.Ok∧p.holds w)∧ps.Pairwise HP.apart⟩
theorem Lb (ps:List HP):(bigE ps).Ok:=fun w B D E h=>⟨fun p e=>⟨(h.1 p e).1,(h.1 p e).1 w B D (fun b G=>E b ⟨p,e,G⟩) (h.1 p e).2⟩,h.2⟩
theorem Mem.big {w0 w:World}{ps l:List HP}(h:Mem w0 (ps++l) w):Mem w0 (bigE ps::l) w:=by
  obtain⟨a1,a2,a3⟩:=List.pairwise_append.1 h.apart
  refine⟨h.bel,fun p hp=>?_,fun p hp=>?_,fun p hp b hf=>?_,?_⟩
  · rcases List.mem_cons.1 hp with rfl | hp
    · exact⟨fun p hp=>⟨h.ok p (List.mem_append_left _ hp),h.holds p (List.mem_append_left _ hp)⟩,a1⟩
    · exact h.holds p (List.mem_append_right _ hp)
  · rcases List.mem_cons.1 hp with rfl | hp
    · exact Lb ps
    · exact h.ok p (List.mem_append_right _ hp)
  · rcases List.mem_cons.1 hp with rfl | hp
    · obtain ⟨q, hq, hf⟩ := hf
      exact h.new q (List.mem_append_left _ hq) b hf
    · exact h.new p (List.mem_append_right _ hp) b hf
  · refine List.pairwise_cons.2 ⟨fun q hq b hf hg => ?_, a2⟩
    obtain⟨p,hp,hf⟩:=hf
    exact a3 p hp q hq b hf hg
theorem Mem.unbig {w0 w:World}{ps l:List HP}(h:Mem w0 (bigE ps::l) w):Mem w0 (ps++l) w:=by
  obtain⟨b1,b2⟩:=h.holds _ mem_cons_self
  obtain⟨a1,a2⟩:=List.pairwise_cons.1 h.apart
  refine⟨h.bel,fun p hp=>?_,fun p hp=>?_,fun p hp b hf=>?_,?_⟩
  · rcases List.mem_append.1 hp with hp | hp
    · exact(b1 p hp).2
    · exact h.holds p (mem_cons_of_mem _ hp)
  · rcases List.mem_append.1 hp with hp | hp
    · exact(b1 p hp).1
    · exact h.ok p (mem_cons_of_mem _ hp)
  · rcases List.mem_append.1 hp with hp | hp
    · exact h.new _ mem_cons_self b ⟨p,hp,hf⟩
    · exact h.new p (mem_cons_of_mem _ hp) b hf
  · exact List.pairwise_append.2 ⟨b2,a2,fun p hp q hq b hf hg=>a1 q hq b ⟨p,hp,hf⟩ hg⟩
def Conv (w0:World) (l l':List HP):Prop:=∀w,Mem w0 l w→Mem w0 l' w
theorem Gh {w0:World}{l l':List HP}(h:l.Perm l'):Conv w0 l l':=fun w e=>e.perm h
theorem Conv.trans {w0:World}{l l' e:List HP}(h:Conv w0 l l') (B:Conv w0 l' e):Conv w0 l e:=fun w D=>B w (h w D)
theorem gN {w0:World}{ps l:List HP}:Conv w0 (bigE ps::l) (ps++l):=fun w e=>e.unbig
theorem lW {α:Type}:∀(ps:List α) (j:Nat) (p:α),ps[j]? = some p→ps.Perm (p::ps.eraseIdx j)
  | [],j,p,h=>by simp at h
  | a::ps,0,p,h=>by simp at h;subst h;exact .refl _
  | a::ps,j+1,p,h=>by
    have:=lW ps j p (by simpa using h)
    exact(this.cons a).trans (.swap _ _ _)
theorem vM {w0:World}{ps l:List HP}{j:Nat}{p:HP}(h:ps[j]? = some p):Conv w0 (bigE ps::l) (p::bigE (ps.eraseIdx j)::l):=by
  refine gN.trans (Conv.trans (Gh (l':=(p::ps.eraseIdx j)++l) ?_) ?_)
  · refine List.Perm.append_right l ?_
    exact lW ps j p h
  · intro w hm
    have:Mem w0 ((ps.eraseIdx j)++(p::l)) w:=hm.perm (by simpa using (List.perm_middle (a:=p) (l₁:=ps.eraseIdx j) (l₂:=l)).symm)
    exact this.big.perm (.swap _ _ _)
theorem rE {w0:World}{ps l:List HP}{j:Nat}{p':HP}(h:j<ps.length):Conv w0 (p'::bigE (ps.eraseIdx j)::l) (bigE (ps.set j p')::l):=by
  intro w e
  have B:Mem w0 (bigE (ps.eraseIdx j)::p'::l) w:=e.perm (.swap _ _ _)
  have D:Mem w0 (p'::ps.eraseIdx j++l) w:=B.unbig.perm List.perm_middle
  refine(D.perm (List.Perm.append_right l ?_)).big
  have:=lW (ps.set j p') j p' (by rw[List.getElem?_set_self h])
  rw[List.eraseIdx_set_eq] at this
  exact this.symm
section
variable {P:Program}{N:Nat}{w0:World}{l l':List HP}{env:List (Nat×Value)}{Q:Post}{o:Oper}{ops:Array Oper}{rest:List Oper}
theorem jZ (l':List HP) (h:Conv w0 l l') (k:HL P N ops w0 l' env rest Q):HL P N ops w0 l env rest Q:=fun a w e=>k a w (e.to (h w e.mem))
theorem fK (l':List HP) {c:Code}(h:Conv w0 l l') (k:HC P N w0 l' env c Q):HC P N w0 l env c Q:=fun a w e=>k a w (e.to (h w e.mem))
theorem fH (l':List HP) {e:Exit}(h:Conv w0 l l') (k:HQ N w0 l' env e Q):HQ N w0 l env e Q:=fun a w B=>k a w (B.to (h w B.mem))
theorem gE {f:FuncId}{fn:Func}{c:Code}{args:List Value}{w:World}{R:Ending→World→Prop}(hf:P.funcs[f]? = some fn) (hb:fn.body=some c) (hN:(fn.ntmps==N&&Nat.ble args.length N)=true)
    (hm:Mem w0 l w) (h:HC P N w0 l (args.zipIdx.map fun p=>(p.2,p.1)) c (bodyPost P fn R)):Calls P f args.toArray w R:=by
  simp only[and_eq_true,beq_iff_eq,Nat.ble_eq] at hN
  refine calls_of_wp hf hb (h _ w ⟨hm,?_,rfl,fun d v hd=>?_⟩)
  · simp;omega
  · have hm := Cv hd
    rw[List.mem_map] at hm
    obtain⟨p,hp,he⟩:=hm
    have:=List.mem_zipIdx_iff_getElem?.1 hp
    simp only[Prod.mk.injEq] at he
    obtain⟨rfl,rfl⟩:=he
    have hlt:p.2<args.length:=(List.getElem?_eq_some_iff.1 this).1
    rw[Array.getElem?_append_left (by simpa using hlt)]
    simpa using this
theorem mT {B:Func}{R:Value→HP→Prop}{t:Tmp}{v:Value}{p':HP}{L:List HP}(D:B.results=#[.tmp t]) (E:lk env t=some v) (G:(p'::L).Sublist l) (h:R v p'):HQ N w0 l env .ret (bodyPost P B (fun e J=>∃v p',e=.returned v∧R v p'∧Mem w0 (p'::L) J)):=
  fU (rs:=[.tmp t]) (vs:=[v]) D ⟨E,trivial⟩ rfl (fun w K=>⟨v,p',rfl,h,K.sub G⟩)
end
theorem vE {α:Type}(f:α→List Value) (s:Nat) (e:∀a,(f a).length=s):∀(es:List α),(es.flatMap f).length=es.length*s
  | []=>AI
  | a::es=>by rw[List.flatMap_cons,length_append,e,vE f s e es,length_cons,Nat.add_mul];omega
theorem dC {α:Type}(f:α→List Value) (s:Nat) (e:∀a,(f a).length=s):∀(es:List α) (d:α) {i k:Nat},i<es.length→k<s→(es.flatMap f)[i*s+k]? = (f (es.getD i d))[k]?
  | [],d,i,k,hi,hk=>by simp at hi
  | a::es,d,0,k,hi,hk=>by
    rw[List.flatMap_cons,Nat.zero_mul,Nat.zero_add,List.getElem?_append_left (by rw[e];exact hk)];rfl
  | a::es,d,i+1,k,hi,hk=>by
    rw[List.flatMap_cons,List.getElem?_append_right (by rw[e,Nat.add_mul];omega),e,show(i+1)*s+k-s=i*s+k by rw[Nat.add_mul];omega,
      dC f s e es d (by simpa using hi) hk]
    rfl
theorem dQ {α:Type}(f:α→List Value) (s:Nat) (e:∀a,(f a).length=s) (es:List α) (d:α) {i:Nat}{us:List Value}(E:i<es.length) (h:f (es.getD i d)=us):∀j u,us[j]? = some u→(es.flatMap f)[i*s+j]? = some u:=fun j u B=>by
  have D:j<us.length:=(List.getElem?_eq_some_iff.1 B).1
  rw[dC f s e es d E (by rw[←h,e] at D;exact D),h];exact B
theorem rC {α:Type}(f:α→List Value) (s:Nat) (e:∀a,(f a).length=s):∀(es:List α) (d e':α) {i k:Nat}{u:Value},i<es.length→k<s→(f (es.getD i d)).set k u=f e'→(es.flatMap f).set (i*s+k) u=(es.set i e').flatMap f
  | [],d,e',i,k,u,hi,hk,h=>by simp at hi
  | a::es,d,e',0,k,u,hi,hk,h=>by
    rw[List.flatMap_cons,Nat.zero_mul,Nat.zero_add,List.set_append_left _ _ (by rw[e];exact hk)]
    show(f a).set k u++_=_
    rw[show(f a).set k u=f e' from h];rfl
  | a::es,d,e',i+1,k,u,hi,hk,h=>by
    rw[List.flatMap_cons,List.set_append_right _ _ (by rw[e,Nat.add_mul];omega),e,show(i+1)*s+k-s=i*s+k by rw[Nat.add_mul];omega,
      rC f s e es d e' (by simpa using hi) hk h]
    rfl
theorem eN {α:Type}{es:List α}{i:Nat}{d:α}(h:i<es.length):es.getD i d∈es:=by
  rw[getD_eq_getElem?_getD,List.getElem?_eq_getElem h];exact List.getElem_mem h
theorem yT {α:Type}{es:List α}{i:Nat}{d:α}(h:i<es.length):es[i]? = some (es.getD i d):=by
  rw[getD_eq_getElem?_getD,List.getElem?_eq_getElem h];rfl
theorem fQ {α:Type}{es:List α}{i:Nat}{d e:α}(h:i<es.length):(es.set i e).getD i d=e:=by
  rw[getD_eq_getElem?_getD,List.getElem?_set_self h];rfl
theorem gW (n:Nat):(madeCells (Value.int .i64 0).cells ((replicate n (0:Int)).length*1)).toList=(replicate n (0:Int)).map (Value.int .i64):=by
  rw[length_replicate,Nat.mul_one,List.map_replicate]
  exact toList_madeCells_one _ _
theorem Gg {w0:World}{src dst l:List HP}(is:List Nat) (hn:is.Nodup) (h:is.map (src[·]?)=dst.map some):Conv w0 (src++l) (dst++l):=by
  intro w hm
  obtain⟨a1,a2,a3⟩:=List.pairwise_append.1 hm.apart
  have hl:is.length=dst.length:=by simpa using congrArg List.length h
  have hat:∀t (ht:t<dst.length),src[is[t]'(by omega)]? = some (dst[t]):=by
    intro t ht
    have:=congrArg (fun (x:List (Option HP))=>x[t]?) h
    simp only[List.getElem?_map,List.getElem?_eq_getElem ht,List.getElem?_eq_getElem (show t<is.length by omega),Option.map_some] at this
    exact Option.some.inj this
  have hmem:∀p∈dst,p∈src:=by
    intro p hp
    obtain⟨t,ht,rfl⟩:=List.mem_iff_getElem.1 hp
    exact List.mem_of_getElem? (hat t ht)
  refine⟨hm.bel,fun p hp=>?_,fun p hp=>?_,fun p hp b hf=>?_,?_⟩
  · rcases List.mem_append.1 hp with hp | hp
    · exact hm.holds p (List.mem_append_left _ (hmem p hp))
    · exact hm.holds p (List.mem_append_right _ hp)
  · rcases List.mem_append.1 hp with hp | hp
    · exact hm.ok p (List.mem_append_left _ (hmem p hp))
    · exact hm.ok p (List.mem_append_right _ hp)
  · rcases List.mem_append.1 hp with hp | hp
    · exact hm.new p (List.mem_append_left _ (hmem p hp)) b hf
    · exact hm.new p (List.mem_append_right _ hp) b hf
  · refine List.pairwise_append.2 ⟨?_, a2, fun p hp q hq => a3 p (hmem p hp) q hq⟩
    rw[List.pairwise_iff_getElem]
    intro i j hi hj hij
    obtain⟨hi',ei⟩:=List.getElem?_eq_some_iff.1 (hat i hi)
    obtain⟨hj',ej⟩:=List.getElem?_eq_some_iff.1 (hat j hj)
    have hne:is[i]'(by omega)≠is[j]'(by omega):=(List.pairwise_iff_getElem.1 hn) i j (by omega) (by omega) hij
    have key:=List.pairwise_iff_getElem.1 a1
    rw[←ei,←ej]
    rcases Nat.lt_or_gt_of_ne hne with hlt|hlt
    · exact key _ _ hi' hj' hlt
    · exact HP.apart_symm (key _ _ hj' hi' hlt)
def putL (xs:List Value) (o:Nat):List Value→List Value
  | []=>xs
  | u::us=>putL (xs.set o u) (o+1) us
theorem zW:∀(us e A:List Value),us.length≤A.length→putL (e++A) e.length us=e++us++A.drop us.length
  | [],e,A,_=>by simp[putL]
  | u::us,e,[],h=>by simp at h
  | u::us,e,a::A,h=>by
    have:=zW us (e++[u]) A (by simpa using h)
    rw[putL,List.set_append_right _ _ (Nat.le_refl _),Nat.sub_self,List.set_cons_zero]
    rw[show e++u::A=(e++[u])++A by simp,show e.length+1=(e++[u]).length by simp,this]
    simp
theorem jB {α:Type}(f:α→List Value) (s:Nat) (e:∀a,(f a).length=s) (es:List α) (e':α) {i:Nat}(h:i<es.length):putL (es.flatMap f) (i*s) (f e')=(es.set i e').flatMap f:=by
  have B:es=es.take i++es[i]::es.drop (i+1):=by rw[←List.drop_eq_getElem_cons h,take_append_drop]
  have G:(es.take i).flatMap f=((es.take i).flatMap f):=rfl
  have D:((es.take i).flatMap f).length=i*s:=by rw[vE f s e,length_take];congr 1;omega
  have E:es.set i e'=es.take i++e'::es.drop (i+1):=by rw[List.set_eq_take_append_cons_drop,if_pos h]
  rw[E]
  conv=>lhs;rw[B]
  rw[List.flatMap_append,List.flatMap_cons,List.flatMap_append,List.flatMap_cons,←D,zW _ _ _ (by rw[length_append,e,e];omega),List.drop_left' (by rw[e,e]),List.append_assoc]
section
variable {P:Program}{N:Nat}{w0:World}{l l':List HP}{env:List (Nat×Value)}{Q:Post}{o:Oper}{ops:Array Oper}{rest:List Oper}
theorem pG {g e size n cap:Nat}{i:Nat}{j:Nat}:∀(us:List Value) (k:Nat) (xs:List Value) (l:List HP) (w:World),Mem w0 l w→l[i]? = some (rowE e size (.slice (some ⟨g,0,none⟩) n cap) n xs)→(∀u∈us,u.oneCell'=true)→j+k+us.length≤n*size→
    ∃w',(storeCells ⟨g,j,none⟩ us k).run P w=.ok () w'∧Mem w0 (l.set i (rowE e size (.slice (some ⟨g,0,none⟩) n cap) n (putL xs (j+k) us))) w'
  | [],k,xs,l,w,hm,hi,_,_=>⟨w,rfl,by rw[putL,mF hi];exact hm⟩
  | u::us,k,xs,l,w,hm,hi,h1,hlt=>by
    have hlen:(u::us).length=us.length+1:=rfl
    have hb:w.ownsRow 0 e size (.slice (some ⟨g,0,none⟩) n cap) n xs:=hm.holds _ (cT hi)
    have hst:=run_store P w ⟨g,j+k,none⟩ u .plain (h1 u mem_cons_self)
    rw[hb.cellAt (j+k) (by omega),List.getElem?_eq_getElem (by rw[hb.1];omega)] at hst
    simp only[hb.frozenAt (j+k)] at hst
    have hil:i<l.length:=by
      rcases Nat.lt_or_ge i l.length with h|h
      · exact h
      · rw[List.getElem?_eq_none h] at hi;cases hi
    obtain⟨w',hr,hm'⟩:=pG (j:=j) us (k+1) (xs.set (j+k) u) (l.set i (rowE e size (.slice (some ⟨g,0,none⟩) n cap) n (xs.set (j+k) u))) (w.setCell ⟨g,j+k,none⟩ u) (hm.setRow hi (j+k) u) (List.getElem?_set_self hil) (fun x hx=>h1 x (mem_cons_of_mem _ hx)) (by omega)
    refine⟨w',?_,?_⟩
    · rw [storeCells, iY]
      simp[hst,hr]
    · rw [List.set_set] at hm'
      rw[putL];exact hm'
theorem jO {t i e h n j:Nat}{x y:Operand}{xs:List Value}{v:Value}{us:List Value}(X:o.dst=none) (Y:want ops env o.guard=some true) (Z:o.op=.store t x y) (hs:(P.info? t).map (·.size)=some us.length)
    (hx:ev env x=some (elP v j)) (hy:ev env y=some (.agg us.toArray)) (h1:∀u∈us,u.oneCell'=true) (M:l[i]? = some (rowE e h v n xs)) (U:0<n) (a0:j+us.length≤n*h)
    {n':Nat}{xs':List Value}(E:n=n') (G:putL xs j us=xs') (J:l.set i (rowE e h v n' xs')=l') (k:HL P N ops w0 l' env rest Q):HL P N ops w0 l env (o::rest) Q:=by
  subst J E G
  exact mU X Y (fun a w D=>by
    have hb:w.ownsRow 0 e h v n xs:=D.mem.holds _ (cT M)
    obtain⟨g,B,rfl⟩:∃g B,v=.slice (some ⟨g,0,none⟩) n B:=by
      rcases hb.2 with⟨rfl,rfl⟩|⟨g,cap',cur,rfl,_⟩
      · omega
      · exact⟨g,cap',rfl⟩
    obtain⟨w',hr,hm⟩:=pG (P:=P) (j:=j) us 0 xs l w D.mem M h1 O
    refine⟨w',?_,hm⟩
    have K:(Value.agg us.toArray).cells=us.toArray:=rfl
    simp[execOp,Z,D.eval hx,elP,D.eval hy,Instr.storeAt,Instr.sureAddr,storeVar,K,iD hs,hr]) k
end
theorem RdsW.one {w:World}{v:Value}{s n:Nat}{cs:List Value}(h:RdsW w v s n cs):v.oneCell'=true:=by
  obtain⟨a,e,rfl,_⟩:=h;rfl
section
variable {P:Program}{N:Nat}{w0:World}{l l':List HP}{env:List (Nat×Value)}{Q:Post}{ops:Array Oper}{rest:List Oper}
theorem eE {i e s n:Nat}{v:Value}{xs:List Value}(B:l[i]? = some (rowE e s v n xs)) (k:v.oneCell'=true→HL P N ops w0 l env rest Q):HL P N ops w0 l env rest Q:=fun a w h=>k (cI (h.mem.holds _ (cT B))).one a w h
end
theorem kL {P:Program}{N:Nat}{w0:World}{l:List HP}{env:List (Nat×Value)}{o:Oper}{t B:TypeId}{x y:Operand}{m n:Bool}(D:o.op=.binOp .neq t x y B) (E:P.underlying t=some .bool) (G:ev env x=some (.bool m)) (J:ev env y=some (.bool n)):RunV P N w0 l env o (.bool (m != n)):=fun a w e=>by
  have h:=run_equalIn_bool' w 9999 t m n E
  have K:(Op.equal t (.bool m) (.bool n)).run P w=.ok (m==n) w:=h
  simp[execOp,D,e.eval G,e.eval J,eqGuard,binOp,K,bne]
theorem fZ {α:Type}(f:α→List Value) (s:Nat) (hs:∀a,(f a).length=s) (d:α) (z:Array Value) (hz:z.toList=f d) (n:Nat):(madeCells z ((replicate n d).length*s)).toList=(replicate n d).flatMap f:=by
  have hsz:z.size=s:=by rw[←hs d,←hz];simp
  apply List.ext_getElem?
  intro j
  rw[length_replicate]
  by_cases hj:j<n*s
  · have hs0 : 0 < s := by rcases Nat.eq_zero_or_pos s with h | h; (subst h; omega); exact h
    have hi:j / s<n:=Nat.div_lt_of_lt_mul (by rw[Nat.mul_comm];exact hj)
    have hm:j % s<s:=Nat.mod_lt _ hs0
    have e:j=j / s*s+j % s:=by rw[Nat.mul_comm];exact(Nat.div_add_mod j s).symm
    have h2:=dC f s hs (replicate n d) d (i:=j / s) (k:=j % s) (by rw[length_replicate];exact hi) hm
    rw[←e] at h2
    rw[h2]
    have h3:(replicate n d).getD (j / s) d=d:=by rw[getD_eq_getElem?_getD,List.getElem?_replicate];split<;>rfl
    rw[h3,←hz]
    have hlt:j<(madeCells z (n*s)).toList.length:=by simpa [size_madeCells] using hj
    rw[List.getElem?_eq_getElem hlt]
    simp only[madeCells,Array.toList_map,List.getElem_map,Array.toList_range,List.getElem_range,hsz]
    rw[getElem!_pos z (j % s) (by omega),Array.getElem?_toList,Array.getElem?_eq_getElem (by omega)]
  · rw[List.getElem?_eq_none (by simpa [size_madeCells] using hj),List.getElem?_eq_none (by rw[vE f s hs,length_replicate];omega)]
theorem Mem.bigNil {w0 w:World}{l:List HP}(h:Mem w0 l w) (e s:Nat):∀n,Mem w0 (replicate n (rowE e s (.slice none 0 0) 0 [])++l) w
  | 0=>h
  | n+1=>by rw[List.replicate_succ,List.cons_append];exact(h.bigNil e s n).nilRow e s
def tauOk (os:List Oper) (m:Nat) (dps qd:List (List Nat)) (tau:List (Option Nat)) (fl:List Nat):Bool:=
  (List.range m).all (fun i=>(qd.getD i []).all (fun j=>(dps.getD i []).contains j&&(List.range m).all (fun k=>tau.getD k none != some j))&&decide ((qd.getD i []).Nodup))&&
  (List.range m).all (fun i=>match tau.getD i none with|none=>true|some h=>(h==os.length||(dps.getD i []).contains h)&&(List.range m).all (fun k=>k==i||tau.getD k none != some h))&&
  fl.all (fun j=>(Nat.blt j m||j==os.length)&&(List.range m).all (fun k=>tau.getD k none != some j))&&decide fl.Nodup
def RunM (P:Program) (N:Nat) (w0:World) (C X:List HP) (env:List (Nat×Value)) (o:Oper) (R:Value→List HP→Prop):Prop:=
  ∀L,(∀w,Mem w0 L w→Mem w0 X w)→∀a w,St N w0 (C++L) env a w→∀(Q:Post) (K:Act→World→Prop),(∀v post w',R v post→Mem w0 (post++L) w'→K (a.put o.dst v) w')→o.wp P a w K Q
def OblM (P:Program) (ops:Array Oper) (N:Nat) (w0:World) (C X:List HP) (env:List (Nat×Value)) (o:Oper) (R:Value→List HP→Prop):Prop:=
  (want ops env o.guard=some true∧RunM P N w0 C X env o R)∨(want ops env o.guard=some false∧R undef C)
def Obl2 (P:Program) (ops:Array Oper) (N:Nat) (w0:World) (t:Option Nat) (pf:Nat→List HP) (X:List HP) (env:List (Nat×Value)) (o:Oper) (R:Value→List HP→Prop):Prop:=match t with
  | none=>Obl P ops N w0 X env o R
  | some h=>OblM P ops N w0 (pf h) X env o R
section
variable {P:Program}{N:Nat}{w0:World}{l:List HP}{env:List (Nat×Value)}{Q:Post}{os:List Oper}{m:Nat}{dps:List (List Nat)}{dsts:List Nat}{R:Nat→List Value→Value→List HP→Prop}
structure Mid2 (N:Nat) (w0:World) (l:List HP) (env:List (Nat×Value)) (os:List Oper) (m:Nat) (dps:List (List Nat)) (dsts:List Nat) (R:Nat→List Value→Value→List HP→Prop) (tau:List (Option Nat)) (P0:List HP) (listed:Array Bool) (ord held:List Nat) (vf:Nat→Value) (pf:Nat→List HP) (a:Act) (w:World):Prop where
  size:listed.size=os.length
  iff:∀i,i<os.length→(listed.getD i true=true↔i∈ord)
  low:∀i∈ord,i<m
  closed:∀i∈ord,∀j∈depsOf os i,j∈ord
  nodup:ord.Nodup
  dcl:∀i∈ord,∀j∈dps.getD i [],j∈ord
  rel:∀i∈ord,R i ((dps.getD i []).map vf) (vf i) (pf i)
  hn:held.Nodup
  hin:∀i∈held,i∈ord∨i=os.length
  hall:∀i,(i∈ord∨i=os.length)→(∀j∈ord,tau.getD j none≠some i)→i∈held
  hP:pf os.length=P0
  mem:Mem w0 (held.flatMap pf++l) w
  asize:a.tmps.size=N
  defers:a.defers=[]
  env:∀d v,lk env d=some v→a.tmps[d]? = some v
  slots:∀i∈ord,∀d,dsts[i]? = some d→a.tmps[d]? = some (vf i)
theorem Mid2.st {tau P0 listed ord held vf pf a w}(h:Mid2 N w0 l env os m dps dsts R tau P0 listed ord held vf pf a w) (hm:m≤dsts.length) {is:List Nat}(hs:∀j∈is,j∈ord) {L:List HP}(hM:Mem w0 L w):St N w0 L (envOf dsts vf is++env) a w:=by
  refine⟨hM,h.asize,h.defers,fun d v hd=>?_⟩
  rcases oP _ _ _ _ hd with h1|h1
  · unfold envOf at h1
    rw[List.mem_map] at h1
    obtain⟨i,hi,he⟩:=h1
    have hio:=hs i hi
    have hlt:=h.low i hio
    have:dsts[i]? = some (dsts.getD i 0):=by rw[getD_eq_getElem?_getD,List.getElem?_eq_getElem (by omega)];rfl
    simp only[Prod.mk.injEq] at he
    obtain⟨rfl,rfl⟩:=he
    exact h.slots i hio _ this
  · exact h.env d v h1
def Dues2 (P:Program) (ops:Array Oper) (N:Nat) (w0:World) (l:List HP) (env:List (Nat×Value)) (P0:List HP) (mu:Nat) (dsts:List Nat) (all qall:List (List Nat)) (tau:List (Option Nat)) (R:Nat→List Value→Value→List HP→Prop):Nat→List (List Nat)→List Oper→Prop
  | _,_,[]=>True
  | k,dss,o::os=>(∀(vf:Nat→Value) (pf:Nat→List HP),pf mu=P0→(∀j∈all.getD k [],R j ((all.getD j []).map vf) (vf j) (pf j))→Obl2 P ops N w0 (tau.getD k none) pf ((qall.getD k []).flatMap pf++l) (envOf dsts vf (all.getD k [])++env) o (R k ((all.getD k []).map vf)))∧Dues2 P ops N w0 l env P0 mu dsts all qall tau R (k+1) dss os
theorem Bf {P:Program}{ops:Array Oper}{N:Nat}{w0:World}{l:List HP}{env:List (Nat×Value)}{P0:List HP}{K:Nat}{dsts:List Nat}{B E:List (List Nat)}{J:List (Option Nat)}{R:Nat→List Value→Value→List HP→Prop}:∀(os:List Oper) (D:List (List Nat)) (k:Nat),Dues2 P ops N w0 l env P0 K dsts B E J R k D os→∀i o,os[i]? = some o→∀vf G,G K=P0→(∀j∈B.getD (k+i) [],R j ((B.getD j []).map vf) (vf j) (G j))→Obl2 P ops N w0 (J.getD (k+i) none) G ((E.getD (k+i) []).flatMap G++l) (envOf dsts vf (B.getD (k+i) [])++env) o (R (k+i) ((B.getD (k+i) []).map vf))
  | [],_,_,_,i,o,ho,_,_,_,_=>by simp at ho
  | o'::os,D,k,h,0,o,ho,vf,G,hP,hR=>by simp at ho;subst ho;exact h.1 vf G hP hR
  | o'::os,D,k,h,i+1,o,ho,vf,G,hP,hR=>by
    have e:k+1+i=k+(i+1):=O
    have:=Bf os D (k+1) h.2 i o (by simpa using ho) vf G hP (by rw[e];exact hR)
    rwa [e] at this
theorem gX {f:FuncId}{xs:Array Operand}{B:Array TypeId}{vs:List Value}{p:HP}{X:List HP}{R:Value→HP→Prop}{ty:TypeId}{pos:String}{M:Array Edge}{U:Option (Nat×Bool)}{Y:Option Nat}(D:goesB P f=true) (E:evs env xs.toList=some vs)
    (Z:∀L w,(∀w,Mem w0 L w→Mem w0 X w)→Mem w0 (p::L) w→Calls P f vs.toArray w fun e G=>∃v p',e=.returned v∧R v p'∧Mem w0 (p'::L) G) :
    RunM P N w0 [p] X env { dst:=Y,op:=.call { callee:=.value (.func f),args:=xs,argTypes:=B },type:=ty,pos:=pos,after:=M,guard:=U } (fun v post=>∃p',post=[p']∧R v p'):=fun L hL a w J Q K hK=>by
  unfold Oper.wp
  have h1:=rD J _ _ E
  have h2:#[]++xs.map a.eval ++ #[]=vs.toArray:=by
    rw[Array.empty_append,Array.append_empty]
    apply Array.toList_inj.1
    simpa using h1
  rw[execOp_call_go,h2,xX D,Oper.upon_enter]
  refine(Z L w hL J.mem).mono fun e G h=>?_
  obtain⟨v,p',rfl,hR,hm⟩:=h
  exact hK _ _ _ ⟨p',rfl,hR⟩ hm
theorem jP {ops:Array Oper}{rest:List Oper}{d:Nat}{f:FuncId}{xs:Array Operand}{ats:Array TypeId}{vs:List Value}{p:HP}{R:Value→HP→Prop}{ty:TypeId}{pos:String}{af:Array Edge}{gd:Option (Nat×Bool)}(i:Nat) (hN:Nat.blt d N=true) (hw:want ops env gd=some true)
    (hgo:goesB P f=true) (hvs:evs env xs.toList=some vs) (hi:l[i]? = some p)
    (hc:∀L w,(∀w,Mem w0 L w→Mem w0 (l.eraseIdx i) w)→Mem w0 (p::L) w→Calls P f vs.toArray w fun e w'=>∃v p',e=.returned v∧R v p'∧Mem w0 (p'::L) w') (k:∀v p',R v p'→HL P N ops w0 (l.set i p') ((d,v)::env) rest Q):HL P N ops w0 l env ({ dst:=some d,op:=.call { callee:=.value (.func f),args:=xs,argTypes:=ats },type:=ty,pos:=pos,after:=af,guard:=gd } :: rest) Q:=fun a w st=>by
  have h1:=lW l i p hi
  have hil:i<l.length:=(List.getElem?_eq_some_iff.1 hi).1
  refine El (vs:=vs.toArray) rfl hN hw (fun a=>execOp_call_go a (some d) f xs ats ty pos af gd) (fun a w st=>?_) (fun w=>xX hgo _ w) (fun w hm=>(hc (l.eraseIdx i) w (fun w h=>h) (hm.perm h1)).mono fun e w' h=>?_) a w st
  · have := rD st _ _ hvs
    rw[Array.empty_append,Array.append_empty]
    apply Array.toList_inj.1
    simpa using this
  · obtain ⟨v, p', rfl, hR, hm'⟩ := h
    have h2:=lW (l.set i p') i p' (List.getElem?_set_self hil)
    rw[List.eraseIdx_set_eq] at h2
    exact⟨v,_,rfl,hm'.perm h2.symm,k v p' hR⟩
theorem Jw {C X e:List HP}{env':List (Nat×Value)}{o:Oper}{R:Value→List HP→Prop}(B:sub env' env) (D:e.Sublist X) (h:RunM P N w0 C e env' o R):RunM P N w0 C X env o R:=fun L E a w G=>h L (fun w J=>(E w J).sub D) a w (G.less B (.refl _))
theorem jD {C X:List HP}{o:Oper}{R R':Value→List HP→Prop}(h:RunM P N w0 C X env o R) (e:∀v post,R v post→R' v post):RunM P N w0 C X env o R':=fun L B a w D Q K E=>h L B a w D Q K fun v post G J M=>E v post G (e _ _ J) M
end
theorem Ac (n k:Nat):((List.range k).map (n + ·)).Nodup:=by
  rw[List.Nodup,List.pairwise_map]
  exact List.nodup_range.imp (fun h e=>h O)
theorem Cj {α:Type}(P0:List (List α)):(List.range P0.length).map (fun a=>P0.getD a [])=P0:=by
  apply List.ext_getElem AI
  intro i h e
  simp[getD_eq_getElem?_getD,List.getElem?_eq_getElem e]
def envOf3 (dsts:List (Option Nat)) (vf:Nat→Value) (is:List Nat):List (Nat×Value):=is.filterMap fun i=>(dsts.getD i none).map fun d=>(d,vf i)
def drawOk3 (os:List Oper) (m:Nat) (dps:List (List Nat)) (dsts:List (Option Nat)):Bool:=
  Nat.ble m os.length&&
  (List.range os.length).all (fun i=>(depsOf os i).all (fun j=>Nat.blt j i))&&
  (List.range os.length).all (fun k=>Nat.blt k m||(List.range m).all (fun j=>((msk ((List.range os.length).map (depsOf os)) []).getD k 0).testBit j))&&
  (List.range (os.length-m)).all (fun t=>Region.ready .any os.toArray (replicate (m+t) true++replicate (os.length-(m+t)) false).toArray==[m+t])&&
  (os.take m).map (·.dst)==dsts&&(List.range m).all (fun i=>(List.range m).all (fun j=>i==j||dsts.getD i none==none||dsts.getD i none != dsts.getD j none))&&
  (List.range m).all (fun i=>(dps.getD i []).all (fun j=>((msk ((List.range os.length).map (depsOf os)) []).getD i 0).testBit j)&&decide ((dps.getD i []).Nodup))
section
variable {P:Program}{N:Nat}{w0:World}{l:List HP}{env:List (Nat×Value)}{Q:Post}{os:List Oper}{m:Nat}{dps:List (List Nat)}{dsts:List (Option Nat)}{R:Nat→List Value→Value→List HP→Prop}
structure Mid3 (N:Nat) (w0:World) (l:List HP) (env:List (Nat×Value)) (os:List Oper) (m:Nat) (dps:List (List Nat)) (dsts:List (Option Nat)) (R:Nat→List Value→Value→List HP→Prop) (tau:List (Option Nat)) (P0:List (List HP)) (listed:Array Bool) (ord held:List Nat) (vf:Nat→Value) (pf:Nat→List HP) (a:Act) (w:World):Prop where
  size:listed.size=os.length
  iff:∀i,i<os.length→(listed.getD i true=true↔i∈ord)
  low:∀i∈ord,i<m
  closed:∀i∈ord,∀j∈depsOf os i,j∈ord
  nodup:ord.Nodup
  dcl:∀i∈ord,∀j∈dps.getD i [],j∈ord
  rel:∀i∈ord,R i ((dps.getD i []).map vf) (vf i) (pf i)
  hn:held.Nodup
  hin:∀i∈held,i∈ord∨(os.length≤i∧i<os.length+P0.length)
  hall:∀i,(i∈ord∨(os.length≤i∧i<os.length+P0.length))→(∀j∈ord,tau.getD j none≠some i)→i∈held
  hP:∀k,k<P0.length→pf (os.length+k)=P0.getD k []
  mem:Mem w0 (held.flatMap pf++l) w
  asize:a.tmps.size=N
  defers:a.defers=[]
  env:∀d v,lk env d=some v→a.tmps[d]? = some v
  slots:∀i∈ord,∀d,dsts[i]? = some (some d)→a.tmps[d]? = some (vf i)
theorem Mid3.st {tau P0 listed ord held vf pf a w}(h:Mid3 N w0 l env os m dps dsts R tau P0 listed ord held vf pf a w) (hm:m≤dsts.length) {is:List Nat}(hs:∀j∈is,j∈ord) {L:List HP}(hM:Mem w0 L w):St N w0 L (envOf3 dsts vf is++env) a w:=by
  refine⟨hM,h.asize,h.defers,fun d v hd=>?_⟩
  rcases oP _ _ _ _ hd with h1|h1
  · unfold envOf3 at h1
    rw[List.mem_filterMap] at h1
    obtain⟨i,hi,he⟩:=h1
    rw[Option.map_eq_some_iff] at he
    obtain⟨d',hd',he⟩:=he
    simp only[Prod.mk.injEq] at he
    obtain⟨rfl,rfl⟩:=he
    have:dsts[i]? = some (some d'):=by
      rw[getD_eq_getElem?_getD] at hd'
      cases hx:dsts[i]? with
      | none=>rw[hx] at hd';cases hd'
      | some y=>rw[hx] at hd';exact congrArg some hd'
    exact h.slots i (hs i hi) _ this
  · exact h.env d v h1
theorem hO {P0 X:List HP}{o:Oper}{t b off:Nat}{x y:Operand}{cs cs':Array Value}{J:TypeId}{us:List Value}(i:Nat) (hd:o.dst=none) (Z:o.op=.store t x y) (hs:(P.info? t).map (·.size)=some us.length)
    (hx:ev env x=some (.pointer (some ⟨b,off,none⟩))) (hy:ev env y=some (.agg us.toArray)) (M:P0[i]? = some (boxE b cs J)) (h1:∀u∈us,u.oneCell'=true) (B:Nat.ble (off+us.length) cs.size=true) (D:putN cs off us=cs') :
    RunM P N w0 P0 X env o (fun v post=>post=P0.set i (boxE b cs' J)):=fun L hL a w E Q K hK=>by
  subst D
  rw[Nat.ble_eq] at B
  have e:i<P0.length:=(List.getElem?_eq_some_iff.1 M).1
  obtain⟨U,hr,Y⟩:=pH (P:=P) (off:=off) us 0 cs (P0++L) w E.mem (by rw[List.getElem?_append_left e];exact M) h1 O
  have G:(Value.agg us.toArray).cells=us.toArray:=rfl
  have h:(execOp a.eval o).run P w=.ok .skip U:=by simp[execOp,Z,E.eval hx,E.eval hy,Instr.storeAt,Instr.sureAddr,storeVar,G,iD hs,hr]
  unfold Oper.wp
  rw[h,Oper.upon_skip]
  exact hK undef _ U rfl (by rw[List.set_append_left _ _ e] at Y;exact Y)
theorem mO {X:List HP}{o:Oper}{d t e s bytes n m:Nat}{x y:Operand}{v u z:Value}{xs news:List Value}(ho:o.op=.call { callee:=.builtin .append,args:=#[x,y],argTypes:=#[t,t] })
    (hu:P.underlying t=some (.slice e)) (hinf:(P.info? e).map (fun i=>(i.zero,i.size,i.bytes))=some (some z,s,bytes)) (hzs:(Nat.beq z.cells.size s&&Nat.blt 0 s&&Nat.ble bytes 1000)=true)
    (hx:ev env x=some v) (hy:ev env y=some u) (hr:Rd w0 X u s m news) (h1:∀q∈news,q.oneCell'=true) (hnm:n+m≤100000000000)
    {n':Nat}{xs':List Value}(hn':n+m=n') (hx':xs++news=xs'):RunM P N w0 [rowE e s v n xs] X env o (fun v' post=>∃p',post=[p']∧p'=rowE e s v' n' xs'):=fun L hL a w st Q K hK=>by
  obtain⟨inf,hi',hz,hs,hby⟩:=info_parts hinf
  simp only[and_eq_true,Nat.beq_eq,Nat.blt_eq,Nat.ble_eq] at hzs
  obtain⟨⟨hz1,hz2⟩,hz3⟩:=hzs
  obtain⟨ad,cap,rfl,hl,hm,hc⟩:=hr w (hL w (st.mem.sub z9))
  have hown:w.ownsRow 0 e s v n xs:=st.mem.holds _ (cT (i:=0) rfl)
  have hrun:∃v' w',(Builtin.append_ #[t,t] o.type #[v,.slice ad m cap]).run P w=.ok v' w'∧w'.ownsRow 0 e s v' (n+m) (xs++news)∧w.grownBy w' v.ownBlock∧(v'.ownBlock=v.ownBlock∨v'.ownBlock=some w.heap.size):=by
    by_cases hm0:m=0
    · subst hm0
      have hn:news=[]:=List.eq_nil_of_length_eq_zero (by simpa using hl)
      subst hn
      refine⟨v,w,?_,by simpa using hown,World.grownBy.refl _ _,.inl rfl⟩
      rcases hown.2 with⟨rfl,rfl⟩|⟨g,cap',cur,rfl,_,hg,hnc,hcm,hcs,htake⟩
      · cases ad<;>simp[Builtin.append_,run_underlying hu,sizeOf,typeInfo,hi',Builtin.lenOf,Builtin.firstCells,loadCells,loadCellsFrom]
      · cases ad<;>simp[Builtin.append_,run_underlying hu,sizeOf,typeInfo,hi',Builtin.lenOf,Builtin.firstCells,loadCells,loadCellsFrom,hnc,storeCells]
    · obtain ⟨b, off, rfl, hc'⟩ := hc (by omega)
      have hb:(n+m)*bytes≤140737488355328:=by have:=Nat.mul_le_mul hnm hz3;omega
      obtain⟨v',w',e1,e2,e3,_,e5⟩:=run_append_own_at (P:=P) w 0 t o.type e inf z s bytes hu hi' hz hs hby hz1 hz2 v n xs hown ⟨b,off,none⟩ m cap news hl (fun j q hj=>by rw[iY];exact hc' j q hj) h1 (by unfold maxLen;omega) hb (Nat.zero_le _)
      exact⟨v',w',e1,e2,e3,e5⟩
  obtain⟨v',w',e1,e2,e3,e4⟩:=hrun
  have hr:(execOp a.eval o).run P w=.ok (.value v') w':=by
    simp only[execOp,ho,resolve,invoke,builtin,Sem.run_bind,Sem.run_pure,Result.andThen_ok,List.map_toArray,map_cons,map_nil,st.eval hx,st.eval hy,e1]
  unfold Oper.wp
  rw[hr,Oper.upon_value]
  subst hn' hx'
  exact hK v' _ w' ⟨_,rfl,rfl⟩ (Mem.append (i:=0) rfl st.mem e2 e3 e4)
end
def tauOk4 (os:List Oper) (m K:Nat) (dps qd:List (List Nat)) (tau:List (Option Nat)) (fl:List Nat):Bool:=
  (List.range m).all (fun i=>(qd.getD i []).all (fun j=>((dps.getD i []).contains j||(Nat.ble os.length j&&Nat.blt j (os.length+K)))&&(List.range m).all (fun k=>tau.getD k none != some j||(k != i&&((msk ((List.range os.length).map (depsOf os)) []).getD k 0).testBit i)))&&decide ((qd.getD i []).Nodup))&&
  (List.range m).all (fun i=>match tau.getD i none with|none=>true|some h=>((Nat.ble os.length h&&Nat.blt h (os.length+K))||(dps.getD i []).contains h)&&(List.range m).all (fun k=>k==i||tau.getD k none != some h))&&
  fl.all (fun j=>(Nat.blt j m||(Nat.ble os.length j&&Nat.blt j (os.length+K)))&&(List.range m).all (fun k=>tau.getD k none != some j))&&decide fl.Nodup
section
variable {P:Program}{N:Nat}{w0:World}{l:List HP}{env:List (Nat×Value)}{Q:Post}{os:List Oper}{m:Nat}{dps:List (List Nat)}{dsts:List (Option Nat)}{R:Nat→List Value→Value→List HP→Prop}
structure Mid4 (N:Nat) (w0:World) (l:List HP) (env:List (Nat×Value)) (os:List Oper) (m:Nat) (dps:List (List Nat)) (dsts:List (Option Nat)) (R:Nat→List Value→Value→List HP→Prop) (tau:List (Option Nat)) (P0:List (List HP)) (listed:Array Bool) (ord held:List Nat) (vf:Nat→Value) (pf:Nat→List HP) (a:Act) (w:World):Prop where
  size:listed.size=os.length
  iff:∀i,i<os.length→(listed.getD i true=true↔i∈ord)
  low:∀i∈ord,i<m
  closed:∀i∈ord,∀j∈depsOf os i,j∈ord
  nodup:ord.Nodup
  dcl:∀i∈ord,∀j∈dps.getD i [],j∈ord
  rel:∀i∈ord,R i ((dps.getD i []).map vf) (vf i) (pf i)
  hn:held.Nodup
  hin:∀i∈held,i∈ord∨(os.length≤i∧i<os.length+P0.length)
  hall:∀i,(i∈ord∨(os.length≤i∧i<os.length+P0.length))→(∀j∈ord,tau.getD j none≠some i)→i∈held
  hP:∀k,k<P0.length→pf (os.length+k)=P0.getD k []
  mem:Mem w0 (held.flatMap pf++l) w
  asize:a.tmps.size=N
  defers:a.defers=[]
  env:∀d v,lk env d=some v→a.tmps[d]? = some v
  slots:∀i∈ord,∀d,dsts[i]? = some (some d)→a.tmps[d]? = some (vf i)
theorem Mid4.st {tau P0 listed ord held vf pf a w}(h:Mid4 N w0 l env os m dps dsts R tau P0 listed ord held vf pf a w) (hm:m≤dsts.length) {is:List Nat}(hs:∀j∈is,j∈ord) {L:List HP}(hM:Mem w0 L w):St N w0 L (envOf3 dsts vf is++env) a w:=by
  refine⟨hM,h.asize,h.defers,fun d v hd=>?_⟩
  rcases oP _ _ _ _ hd with h1|h1
  · unfold envOf3 at h1
    rw[List.mem_filterMap] at h1
    obtain⟨i,hi,he⟩:=h1
    rw[Option.map_eq_some_iff] at he
    obtain⟨d',hd',he⟩:=he
    simp only[Prod.mk.injEq] at he
    obtain⟨rfl,rfl⟩:=he
    have:dsts[i]? = some (some d'):=by
      rw[getD_eq_getElem?_getD] at hd'
      cases hx:dsts[i]? with
      | none=>rw[hx] at hd';cases hd'
      | some y=>rw[hx] at hd';exact congrArg some hd'
    exact h.slots i (hs i hi) _ this
  · exact h.env d v h1
theorem wU {id : Nat} (hmix : P.follows .mixedOrders = true) (m : Nat) (dps : List (List Nat)) (dsts : List (Option Nat)) (R : Nat → List Value → Value → List HP → Prop) (qd : List (List Nat)) (tau : List (Option Nat)) (P0 : List (List HP)) (fl : List Nat) (hok : drawOk3 os m dps dsts = true) (htau : tauOk4 os m P0.length dps qd tau fl = true) (hfresh : dsts.all (fun d => match d with | some d => (lk env d).isNone | none => true) = true) (hN : dsts.all (fun d => match d with | some d => Nat.blt d N | none => true) = true)
    (due:∀i o,os[i]? = some o→i<m→∀vf pf,(∀k,k<P0.length→pf (os.length+k)=P0.getD k [])→(∀j∈dps.getD i [],R j ((dps.getD j []).map vf) (vf j) (pf j))→Obl2 P os.toArray N w0 (tau.getD i none) pf ((qd.getD i []).flatMap pf++l) (envOf3 dsts vf (dps.getD i [])++env) o (R i ((dps.getD i []).map vf)))
    (fin:∀vf pf,(∀k,k<P0.length→pf (os.length+k)=P0.getD k [])→(∀i,i<m→R i ((dps.getD i []).map vf) (vf i) (pf i))→HL P N os.toArray w0 (fl.flatMap pf++l) (envOf3 dsts vf (List.range m)++env) (os.drop m) Q):HC P N w0 (P0.flatten++l) env (.region id os.toArray true) Q:=by
  intro a w st
  refine wp_region_any hmix ?_
  simp only[drawOk3,and_eq_true,Nat.ble_eq,List.all_eq_true,mem_range,Bool.or_eq_true,Nat.blt_eq,beq_iff_eq,decide_eq_true_eq,Array.all_eq_true',bne_iff_ne] at hok
  obtain⟨⟨⟨⟨⟨⟨hml,hback⟩,hcov⟩,hready⟩,hdst⟩,hdn⟩,hdp⟩:=hok
  simp only[tauOk4,and_eq_true,List.all_eq_true,mem_range,Bool.or_eq_true,Nat.blt_eq,Nat.ble_eq,beq_iff_eq,bne_iff_ne,decide_eq_true_eq,List.contains_iff_mem] at htau
  obtain⟨⟨⟨hqd,hth⟩,hfl⟩,hfn⟩:=htau
  have hml':m≤dsts.length:=by have:=congrArg List.length hdst;simp at this;omega
  have hlen:dsts.length=m:=by have:=congrArg List.length hdst;simp at this;omega
  have hrdy:∀k,m≤k→k<os.length→Region.ready .any os.toArray (preT os.length k)=[k]:=fun k h1 h2=>by
    have:=hready (k-m) (by omega)
    rw[show m+(k-m)=k by omega] at this
    exact this
  have hmsk:∀i j,((msk ((List.range os.length).map (depsOf os)) []).getD i 0).testBit j=true→Dep os i j:=yF os _ _ (fun t ds ht d hd=>by
    rw[List.getElem?_map] at ht
    by_cases h:t<os.length
    · rw[List.getElem?_range h] at ht;simp at ht;subst ht;simpa using hd
    · rw[List.getElem?_eq_none (by simp;omega)] at ht;cases ht) (fun i j h=>by simp at h)
  have dstAt:∀i,i<m→∀o,os[i]? = some o→o.dst=dsts.getD i none:=fun i hi o ho=>by
    have h1:((os.take m).map (·.dst))[i]? = some o.dst:=by rw[List.getElem?_map,List.getElem?_take,if_pos hi,ho];rfl
    rw[hdst] at h1
    rw[getD_eq_getElem?_getD,h1];rfl
  -- what may come up
  have key:∀(f:Nat) (listed:Array Bool) (ord held:List Nat) (vf:Nat→Value) (pf:Nat→List HP) (a:Act) (w:World),f+ord.length=os.length→Mid4 N w0 l env os m dps dsts R tau P0 listed ord held vf pf a w→wpAny P .any os.toArray Q f listed a w:=by
    intro f
    induction f with
    | zero=>
      intro listed ord held vf pf a w hf h
      -- all are listed: m = the length
      have hall:∀i,i<os.length→i∈ord:=by
        intro i hi
        have hsub:ord.Perm (List.range os.length)∨True:=.inr trivial
        obtain⟨r,hr⟩:=mR ord (List.range os.length) h.nodup (fun j hj=>by have:=h.low j hj;simp;omega)
        have hl:=hr.length_eq
        simp at hl
        have:r=[]:=List.length_eq_zero_iff.1 (by omega)
        subst this
        have:=hr.mem_iff.1 (List.mem_range.2 hi)
        simpa using this
      have hm2:m=os.length:=by
        by_cases hc:m<os.length
        · have:=h.low m (hall m hc);omega
        · omega
      have hp:listed=preT os.length m:=by
        apply Array.ext
        · rw[h.size,kH _ _ hml]
        · intro i h1 h2
          have hi:i<os.length:=by rw[h.size] at h1;exact h1
          have e1:=(h.iff i hi).2 (hall i hi)
          have e2:=nT os.length m i hml hi
          rw[Array.getD_eq_getD_getElem?,Array.getElem?_eq_getElem h1] at e1
          rw[Array.getD_eq_getD_getElem?,Array.getElem?_eq_getElem h2] at e2
          simp only[Option.getD_some] at e1 e2
          rw[e1,e2];simp;omega
      rw[hp]
      refine tT hrdy 0 m (Nat.le_refl _) (by omega) a w ?_
      exact fin vf pf h.hP (fun i hi=>h.rel i (hall i (by omega))) a w (h.st hml' (fun j hj=>hall j (by rw[mem_range] at hj;omega)) (h.mem.pick hfn (fun j hj=>h.hall j ((hfl j hj).1.imp (fun hlt=>hall j (by omega)) (fun x=>x)) (fun k hk=>(hfl j hj).2 k (h.low k hk)))))
    | succ f ih=>
      intro listed ord held vf pf a w hf h
      by_cases hall:∀i,i<m→i∈ord
      · -- the tail's turn
        have hp:listed=preT os.length m:=by
          apply Array.ext
          · rw[h.size,kH _ _ hml]
          · intro i h1 h2
            have hi:i<os.length:=by rw[h.size] at h1;exact h1
            have e1:=h.iff i hi
            have e2:=nT os.length m i hml hi
            rw[Array.getD_eq_getD_getElem?,Array.getElem?_eq_getElem h1] at e1
            rw[Array.getD_eq_getD_getElem?,Array.getElem?_eq_getElem h2] at e2
            simp only[Option.getD_some] at e1 e2
            rw[e2,Bool.eq_iff_iff,e1,decide_eq_true_eq]
            exact⟨fun hx=>h.low i hx,fun hx=>hall i hx⟩
        have hord:ord.length=m:=by
          obtain⟨r,hr⟩:=mR ord (List.range m) h.nodup (fun j hj=>by have:=h.low j hj;simpa using this)
          obtain⟨r',hr'⟩:=mR (List.range m) ord List.nodup_range (fun j hj=>hall j (by simpa using hj))
          have h1:=hr.length_eq
          have h2:=hr'.length_eq
          simp at h1 h2
          omega
        rw[hp]
        refine tT hrdy (f+1) m (Nat.le_refl _) (by omega) a w ?_
        exact fin vf pf h.hP (fun i hi=>h.rel i (hall i hi)) a w (h.st hml' (fun j hj=>hall j (by simpa using hj)) (h.mem.pick hfn (fun j hj=>h.hall j ((hfl j hj).1.imp (fun hlt=>hall j hlt) (fun x=>x)) (fun k hk=>(hfl j hj).2 k (h.low k hk)))))
      · -- some quiet one is not done yet
        have hsome:∃i,i<m∧i∉ord:=by
          by_cases hx:∃i,i<m∧i∉ord
          · exact hx
          · exact absurd (fun i hi=>Decidable.byContradiction fun hn=>hx ⟨i,hi,hn⟩) hall
        have mem_rdy:∀i,i∈Region.ready .any os.toArray listed↔i<os.length∧i∉ord∧∀j∈depsOf os i,j∈ord:=by
          intro i
          unfold Region.ready
          rw[List.mem_filter,mem_range]
          simp only[List.size_toArray]
          constructor
          · rintro ⟨hi, hb⟩
            rw[and_eq_true] at hb
            have hno:i∉ord:=fun hx=>by rw[(h.iff i hi).2 hx] at hb;simp at hb
            refine⟨hi,hno,fun j hj=>?_⟩
            have ho:os.toArray[i]? = some os[i]:=by simp[hi]
            rw[ho] at hb
            simp only[Option.map_some,Option.getD_some,Array.all_eq_true'] at hb
            unfold depsOf at hj
            rw[List.getElem?_eq_getElem hi] at hj
            simp only[List.mem_map,List.mem_filter] at hj
            obtain⟨e,⟨he,hbd⟩,rfl⟩:=hj
            have hb2:=hb.2 e (by simpa using he)
            rw[hbd] at hb2
            simp at hb2
            have hlt:=hback i hi e.on (by unfold depsOf;rw[List.getElem?_eq_getElem hi];exact List.mem_map.2 ⟨e,List.mem_filter.2 ⟨he,hbd⟩,rfl⟩)
            refine(h.iff e.on (by omega)).1 ?_
            have hs:e.on<listed.size:=by rw[h.size];omega
            rw[Array.getD_eq_getD_getElem?,Array.getElem?_eq_getElem hs]
            simp only[Option.getD_some]
            rw[Array.getElem?_eq_getElem hs] at hb2
            simpa using hb2
          · rintro ⟨hi, hno, hd⟩
            refine⟨hi,?_⟩
            have ho:os.toArray[i]? = some os[i]:=by simp[hi]
            rw[ho]
            simp only[Option.map_some,Option.getD_some,and_eq_true,Array.all_eq_true']
            refine⟨?_,fun e he=>?_⟩
            · cases hb:listed.getD i true with
              | true=>exact absurd ((h.iff i hi).1 hb) hno
              | false=>rfl
            · rw [Bool.or_eq_true]
              by_cases hbd:Region.binds .any e=true
              rotate_left
              · left;simpa using hbd
              right
              have hon:e.on∈depsOf os i:=by unfold depsOf;rw[List.getElem?_eq_getElem hi];exact List.mem_map.2 ⟨e,List.mem_filter.2 ⟨by simpa using he,hbd⟩,rfl⟩
              have hlt:=hback i hi e.on hon
              have:=(h.iff e.on (by omega)).2 (hd e.on hon)
              have hs:e.on<listed.size:=by rw[h.size];omega
              rw[Array.getD_eq_getD_getElem?,Array.getElem?_eq_getElem hs] at this
              simp only[Option.getD_some] at this
              rw[Array.getD_eq_getD_getElem?,Array.getElem?_eq_getElem hs]
              simpa using this
        have hdep:∀k j,Dep os k j→(∀d∈depsOf os k,d∈ord)→j∈ord:=by
          intro k j hd
          induction hd with
          | one hj=>intro hx;exact hx _ hj
          | more hk _ ih2=>intro hx;exact ih2 (fun d hd=>h.closed _ (hx _ hk) d hd)
        have hlow:∀i∈Region.ready .any os.toArray listed,i<m:=by
          intro i hi
          obtain⟨h1,h2,h3⟩:=(mem_rdy i).1 hi
          by_cases hc:i<m
          · exact hc
          · exfalso
            obtain⟨q,hq,hqn⟩:=hsome
            rcases hcov i h1 with h4|h4
            · exact hc h4
            · exact hqn (hdep i q (hmsk i q (h4 q hq)) h3)
        refine⟨fun h0=>?_,fun i hi=>?_⟩
        · -- the least one that is not done may come up
          exfalso
          obtain⟨q,hq,hqn⟩:=hsome
          obtain⟨p,hp,hmin⟩:=exists_least (p:=fun i=>i<m∧i∉ord) ⟨q,hq,hqn⟩
          have:p∈Region.ready .any os.toArray listed:=by
            rw[mem_rdy]
            refine⟨by omega,hp.2,fun j hj=>?_⟩
            have hlt:=hback p (by omega) j hj
            apply Decidable.byContradiction
            intro hn
            have:=hmin j ⟨by omega,hn⟩
            omega
          rw[h0] at this
          cases this
        · have him := hlow i hi
          obtain⟨h1,h2,h3⟩:=(mem_rdy i).1 hi
          have ho:os[i]? = some os[i]:=List.getElem?_eq_getElem h1
          have hdps:=hdp i him
          have hsub:∀j∈dps.getD i [],j∈ord:=fun j hj=>hdep i j (hmsk i j (hdps.1 j hj)) h3
          have hqi:=hqd i him
          have hqheld:∀j∈qd.getD i [],j∈held:=fun j hj=>h.hall j ((hqi.1 j hj).1.imp (hsub j) (fun x=>x)) (fun k hk=>by
            rcases(hqi.1 j hj).2 k (h.low k hk) with h5|⟨-,h6⟩
            · exact h5
            · exact absurd (hdep k i (hmsk k i h6) (h.closed k hk)) h2)
          have hobl:=due i os[i] ho him vf pf h.hP (fun j hj=>h.rel j (hsub j hj))
          have hdd:=dstAt i him _ ho
          have hdlt:∀d,dsts.getD i none=some d→d<N:=fun d hd=>by
            have:=List.all_eq_true.1 hN (some d) (by rw[←hd,getD_eq_getElem?_getD,List.getElem?_eq_getElem (by omega)];exact List.getElem_mem _)
            simpa [Nat.blt_eq] using this
          have hdnone:∀d,dsts.getD i none=some d→lk env d=none:=fun d hd=>by
            have:=List.all_eq_true.1 hfresh (some d) (by rw[←hd,getD_eq_getElem?_getD,List.getElem?_eq_getElem (by omega)];exact List.getElem_mem _)
            simpa using this
          have hne:∀j∈ord,j≠i:=fun j hj e=>h2 (e▸hj)
          have hneh:∀j∈held,j≠i:=fun j hj e=>by
            rcases h.hin j hj with h5|h5
            · exact hne j h5 e
            · omega
          have next : ∀ (held' : List Nat) v post w', held'.Nodup → (∀ k ∈ held', k ∈ i :: ord ∨ (os.length ≤ k ∧ k < os.length + P0.length)) → (∀ k, (k ∈ i :: ord ∨ (os.length ≤ k ∧ k < os.length + P0.length)) → (∀ j ∈ i :: ord, tau.getD j none ≠ some k) → k ∈ held') → R i ((dps.getD i []).map vf) v post →
              Mem w0 (held'.flatMap (fun k=>if k=i then post else pf k)++l) w'→wpAny P .any os.toArray Q f (listed.setIfInBounds i true) (a.put (dsts.getD i none) v) w':=by
            intro held' v post w' hh1 hh2 hh3 hv hm
            refine ih (listed.setIfInBounds i true) (i::ord) held' (fun k=>if k=i then v else vf k) (fun k=>if k=i then post else pf k) _ w' (by simp;omega) ⟨?_,?_,?_,?_,?_,?_,?_,hh1,hh2,hh3,?_,hm,?_,?_,?_,?_⟩
            · simp[h.size]
            · intro k hk
              by_cases hki:k=i
              · subst hki
                have hs:k<listed.size:=by rw[h.size];exact hk
                simp[Array.getD_eq_getD_getElem?,hs]
              · rw [getD_set_ne true (fun e => hki e.symm), h.iff k hk]
                simp[hki]
            · intro k hk;rcases List.mem_cons.1 hk with rfl|hk;exact him;exact h.low k hk
            · intro k hk j hj
              rcases List.mem_cons.1 hk with rfl|hk
              · exact mem_cons_of_mem _ (h3 j hj)
              · exact mem_cons_of_mem _ (h.closed k hk j hj)
            · exact List.nodup_cons.2 ⟨h2,h.nodup⟩
            · intro k hk j hj
              rcases List.mem_cons.1 hk with rfl|hk
              · exact mem_cons_of_mem _ (hsub j hj)
              · exact mem_cons_of_mem _ (h.dcl k hk j hj)
            · intro k hk
              rcases List.mem_cons.1 hk with rfl|hk
              · have e : (dps.getD k []).map (fun j => if j = k then v else vf j) = (dps.getD k []).map vf := List.map_congr_left fun j hj => if_neg (hne j (hsub j hj))
                rw[e,if_pos rfl,if_pos rfl];exact hv
              · have e : (dps.getD k []).map (fun j => if j = i then v else vf j) = (dps.getD k []).map vf := List.map_congr_left fun j hj => if_neg (hne j (h.dcl k hk j hj))
                rw[e,if_neg (hne k hk),if_neg (hne k hk)];exact h.rel k hk
            · intro k hk;rw[if_neg (by omega)];exact h.hP k hk
            · cases hdi:dsts.getD i none<;>simp[Act.put,h.asize]
            · cases hdi:dsts.getD i none<;>exact h.defers
            · intro d u hd
              cases hdi:dsts.getD i none with
              | none=>exact h.env d u hd
              | some d0=>
                have hdne:d0≠d:=fun e=>by rw[←e,hdnone _ hdi] at hd;cases hd
                simp only[Act.put]
                rw[Array.getElem?_setIfInBounds_ne hdne]
                exact h.env d u hd
            · intro k hk d hd
              cases hdi:dsts.getD i none with
              | none=>
                rcases List.mem_cons.1 hk with rfl|hk
                · rw[getD_eq_getElem?_getD,hd] at hdi;cases hdi
                · show a.tmps[d]? = _
                  rw[if_neg (hne k hk)];exact h.slots k hk d hd
              | some d0=>
                have hlt:d0<a.tmps.size:=by rw[h.asize];exact hdlt _ hdi
                rcases List.mem_cons.1 hk with rfl|hk
                · have : d = d0 := by rw [getD_eq_getElem?_getD, hd] at hdi; exact Option.some.inj hdi
                  subst this
                  simp only[Act.put,if_true]
                  simp only[Array.getElem?_setIfInBounds_self_of_lt hlt]
                · have hdne:d0≠d:=by
                    intro e
                    have hk2:k<dsts.length:=(List.getElem?_eq_some_iff.1 hd).1
                    have hdk:dsts.getD k none=some d:=by rw[getD_eq_getElem?_getD,hd];rfl
                    rcases hdn i him k (by omega) with(hx|hx)|hx
                    · exact hne k hk hx.symm
                    · rw[hdi] at hx;cases hx
                    · exact hx (by rw[hdi,hdk,e])
                  simp only[Act.put]
                  rw[Array.getElem?_setIfInBounds_ne hdne,if_neg (hne k hk)]
                  exact h.slots k hk d hd
          unfold wpOp
          have hoa:os.toArray[i]? = some os[i]:=by simp[h1]
          rw[hoa]
          simp only
          have hpost:∀(hs:List Nat) (post:List HP),(∀k∈hs,k≠i)→(i::hs).flatMap (fun k=>if k=i then post else pf k)=post++hs.flatMap pf:=fun hs post hx=>by
            rw[List.flatMap_cons,if_pos rfl]
            congr 1
            rw[List.flatMap_def,List.flatMap_def]
            congr 1
            exact List.map_congr_left fun k hk=>if_neg (hx k hk)
          cases ht:tau.getD i none with
          | none=>
            rw[ht] at hobl
            have hst:=h.st hml' hsub (h.mem.pick hqi.2 hqheld)
            have next1:∀v post w',R i ((dps.getD i []).map vf) v post→Mem w post w'→wpAny P .any os.toArray Q f (listed.setIfInBounds i true) (a.put (dsts.getD i none) v) w':=fun v post w' hv hm=>by
              refine next (i::held) v post w' (List.nodup_cons.2 ⟨fun hx=>hneh i hx rfl,h.hn⟩) (fun k hk=>?_) (fun k hk hk2=>?_) hv ?_
              · rcases List.mem_cons.1 hk with rfl | hk
                · exact .inl mem_cons_self
                · exact(h.hin k hk).imp (mem_cons_of_mem _) (fun x=>x)
              · by_cases hki : k = i
                · rw[hki];exact mem_cons_self
                · refine mem_cons_of_mem _ (h.hall k (hk.imp (fun hx=>by rcases List.mem_cons.1 hx with hx|hx;exact absurd hx hki;exact hx) (fun x=>x)) (fun j hj=>hk2 j (mem_cons_of_mem _ hj)))
              · rw[hpost held post hneh,List.append_assoc];exact h.mem.app hm
            rcases hobl with⟨hw,hq⟩|⟨hw,hq⟩
            · rw [if_pos (hst.wanted hw)]
              refine .inl (hq a w hst Q _ fun v post w' hv hm=>?_)
              rw[hdd]
              exact next1 v post w' hv hm
            · rw [if_neg (by rw [hst.wanted hw]; decide), hdd]
              exact next1 undef [] w hq (Mem.refl w)
          | some hh=>
            rw[ht] at hobl
            have hth2:=hth i him
            rw[ht] at hth2
            simp only[and_eq_true,Bool.or_eq_true,Nat.ble_eq,Nat.blt_eq,beq_iff_eq,List.all_eq_true,mem_range,bne_iff_ne,List.contains_iff_mem] at hth2
            have hheld:hh∈held:=h.hall hh (hth2.1.symm.imp (fun hx=>hsub hh hx) (fun x=>x)) (fun k hk=>(hth2.2 k (h.low k hk)).resolve_left (hne k hk))
            have hperm:=List.perm_cons_erase hheld
            have hmem:Mem w0 (pf hh++((held.erase hh).flatMap pf++l)) w:=by
              have:=h.mem.perm ((hperm.flatMap_right pf).append_right l)
              rwa [List.flatMap_cons,List.append_assoc] at this
            have hnin:hh∉qd.getD i []:=fun hx=>by
              rcases(hqi.1 hh hx).2 i him with h5|⟨h5, -⟩
              · exact h5 ht
              · exact h5 rfl
            have hconv:∀w,Mem w0 ((held.erase hh).flatMap pf++l) w→Mem w0 ((qd.getD i []).flatMap pf++l) w:=fun w hm=>hm.pick hqi.2 (fun j hj=>(List.mem_erase_of_ne (fun (e:j=hh)=>hnin (by rw[←e];exact hj))).2 (hqheld j hj))
            have hst:=h.st hml' hsub hmem
            have hneh2:∀k∈held.erase hh,k≠i:=fun k hk=>hneh k (List.mem_of_mem_erase hk)
            have next2:∀v post w',R i ((dps.getD i []).map vf) v post→Mem w0 (post++((held.erase hh).flatMap pf++l)) w'→wpAny P .any os.toArray Q f (listed.setIfInBounds i true) (a.put (dsts.getD i none) v) w':=fun v post w' hv hm=>by
              refine next (i::held.erase hh) v post w' (List.nodup_cons.2 ⟨fun hx=>hneh2 i hx rfl,h.hn.erase hh⟩) (fun k hk=>?_) (fun k hk hk2=>?_) hv ?_
              · rcases List.mem_cons.1 hk with rfl | hk
                · exact .inl mem_cons_self
                · exact(h.hin k (List.mem_of_mem_erase hk)).imp (mem_cons_of_mem _) (fun x=>x)
              · by_cases hki : k = i
                · rw[hki];exact mem_cons_self
                · have hkh : k ≠ hh := fun e => hk2 i mem_cons_self (by rw [ht, e])
                  exact mem_cons_of_mem _ ((List.mem_erase_of_ne hkh).2 (h.hall k (hk.imp (fun hx=>by rcases List.mem_cons.1 hx with hx|hx;exact absurd hx hki;exact hx) (fun x=>x)) (fun j hj=>hk2 j (mem_cons_of_mem _ hj))))
              · rw[hpost _ post hneh2,List.append_assoc];exact hm
            rcases hobl with⟨hw,hq⟩|⟨hw,hq⟩
            · rw [if_pos (hst.wanted hw)]
              refine .inl (hq _ hconv a w hst Q _ fun v post w' hv hm=>?_)
              rw[hdd]
              exact next2 v post w' hv hm
            · rw [if_neg (by rw [hst.wanted hw]; decide), hdd]
              exact next2 undef (pf hh) w hq hmem
  refine key os.length (Array.replicate os.length false) [] ((List.range P0.length).map (os.length + ·)) (fun _=>undef) (fun k=>if os.length≤k then P0.getD (k-os.length) [] else []) a _ (by simp) ⟨by simp,?_,by simp,by simp,by simp,by simp,by simp,?_,?_,?_,?_,?_,st.size,st.defers,st.env,by simp⟩
  · intro i hi;simp[hi]
  · exact Ac _ _
  · intro i hi
    simp only[List.mem_map,mem_range] at hi
    obtain⟨k,hk,rfl⟩:=hi
    exact .inr ⟨by omega,by omega⟩
  · rintro i (hi | ⟨h1, h2⟩) _
    · cases hi
    · simp only[List.mem_map,mem_range];exact⟨i-os.length,by omega,by omega⟩
  · intro k hk;rw[if_pos (by omega),Nat.add_sub_cancel_left]
  · have e:((List.range P0.length).map (os.length + ·)).flatMap (fun k=>if os.length≤k then P0.getD (k-os.length) [] else [])=P0.flatten:=by
      rw[List.flatMap_map]
      have:(fun a:Nat=>(if os.length≤os.length+a then P0.getD (os.length+a-os.length) [] else []))=fun a=>P0.getD a []:=by
        funext a;rw[if_pos (by omega),Nat.add_sub_cancel_left]
      rw[List.flatMap_def]
      rw[show(List.map (fun a:Nat=>(if os.length≤os.length+a then P0.getD (os.length+a-os.length) [] else [])) (List.range P0.length))=P0 from by rw[this];exact Cj P0]
    rw[e];exact st.mem.drawn _
def Dues4 (P:Program) (ops:Array Oper) (N:Nat) (w0:World) (l:List HP) (env:List (Nat×Value)) (P0:List (List HP)) (mu:Nat) (dsts:List (Option Nat)) (all qall:List (List Nat)) (tau:List (Option Nat)) (R:Nat→List Value→Value→List HP→Prop):Nat→List (List Nat)→List Oper→Prop
  | _,_,[]=>True
  | k,dss,o::os=>(∀(vf:Nat→Value) (pf:Nat→List HP),(∀k,k<P0.length→pf (mu+k)=P0.getD k [])→(∀j∈all.getD k [],R j ((all.getD j []).map vf) (vf j) (pf j))→Obl2 P ops N w0 (tau.getD k none) pf ((qall.getD k []).flatMap pf++l) (envOf3 dsts vf (all.getD k [])++env) o (R k ((all.getD k []).map vf)))∧Dues4 P ops N w0 l env P0 mu dsts all qall tau R (k+1) dss os
theorem Be {P:Program}{ops:Array Oper}{N:Nat}{w0:World}{l:List HP}{env:List (Nat×Value)}{P0:List (List HP)}{K:Nat}{dsts:List (Option Nat)}{B E:List (List Nat)}{J:List (Option Nat)}{R:Nat→List Value→Value→List HP→Prop}:∀(os:List Oper) (D:List (List Nat)) (k:Nat),Dues4 P ops N w0 l env P0 K dsts B E J R k D os→∀i o,os[i]? = some o→∀vf G,(∀k,k<P0.length→G (K+k)=P0.getD k [])→(∀j∈B.getD (k+i) [],R j ((B.getD j []).map vf) (vf j) (G j))→Obl2 P ops N w0 (J.getD (k+i) none) G ((E.getD (k+i) []).flatMap G++l) (envOf3 dsts vf (B.getD (k+i) [])++env) o (R (k+i) ((B.getD (k+i) []).map vf))
  | [],_,_,_,i,o,ho,_,_,_,_=>by simp at ho
  | o'::os,D,k,h,0,o,ho,vf,G,hP,hR=>by simp at ho;subst ho;exact h.1 vf G hP hR
  | o'::os,D,k,h,i+1,o,ho,vf,G,hP,hR=>by
    have e:k+1+i=k+(i+1):=O
    have:=Be os D (k+1) h.2 i o (by simpa using ho) vf G hP (by rw[e];exact hR)
    rwa [e] at this
theorem gZ {id:Nat}(hmix:P.follows .mixedOrders=true) (m:Nat) (qs:List Nat) (quiet tail:List Oper) (dps:List (List Nat)) (dsts:List (Option Nat)) (R:Nat→List Value→Value→List HP→Prop) (qd:List (List Nat)) (tau:List (Option Nat)) (P0:List (List HP)) (fl:List Nat) (mu:Nat)
    (hos:os=quiet++tail) (hq:(Nat.beq quiet.length m&&(List.range m==qs)&&Nat.beq os.length mu)=true) (hok:drawOk3 os m dps dsts=true) (htau:tauOk4 os m P0.length dps qd tau fl=true) (hfresh:dsts.all (fun d=>match d with|some d=>(lk env d).isNone|none=>true)=true) (hN:dsts.all (fun d=>match d with|some d=>Nat.blt d N|none=>true)=true)
    (due:Dues4 P os.toArray N w0 l env P0 mu dsts dps qd tau R 0 [] quiet)
    (fin:∀vf pf,(∀k,k<P0.length→pf (mu+k)=P0.getD k [])→(∀i,i<m→R i ((dps.getD i []).map vf) (vf i) (pf i))→HL P N os.toArray w0 (fl.flatMap pf++l) (envOf3 dsts vf qs++env) tail Q):HC P N w0 (P0.flatten++l) env (.region id os.toArray true) Q:=by
  simp only[and_eq_true,Nat.beq_eq,beq_iff_eq] at hq
  obtain⟨⟨hq1,hq2⟩,hq3⟩:=hq
  refine wU hmix m dps dsts R qd tau P0 fl hok htau hfresh hN (fun i o ho hi vf pf hP hR=>?_) (fun vf pf hP hR=>?_)
  · have ho' : quiet[i]? = some o := by rw [hos, List.getElem?_append_left (by omega)] at ho; exact ho
    have:=Be quiet [] 0 due i o ho' vf pf (by rw[←hq3];exact hP) (by rw[Nat.zero_add];exact hR)
    rwa [Nat.zero_add] at this
  · rw[hq2,hos,List.drop_left' hq1,←hos];exact fin vf pf (by rw[←hq3];exact hP) hR
theorem mB {P0 X:List HP}{o:Oper}{t e h n j:Nat}{x y:Operand}{xs:List Value}{v:Value}{us:List Value}(i:Nat) (hd:o.dst=none) (ho:o.op=.store t x y) (hs:(P.info? t).map (·.size)=some us.length)
    (hx:ev env x=some (elP v j)) (hy:ev env y=some (.agg us.toArray)) (h1:∀u∈us,u.oneCell'=true) (J:P0[i]? = some (rowE e h v n xs)) (Z:0<n) (a0:j+us.length≤n*h)
    {n':Nat}{xs':List Value}(M:n=n') (U:putL xs j us=xs'):RunM P N w0 P0 X env o (fun v_ post=>post=P0.set i (rowE e h v n' xs')):=fun L hL a w G Q K hK=>by
  subst M U
  have B:i<P0.length:=(List.getElem?_eq_some_iff.1 J).1
  have hb:w.ownsRow 0 e h v n xs:=G.mem.holds _ (List.mem_append_left _ (List.mem_of_getElem? J))
  obtain⟨g,D,rfl⟩:∃g D,v=.slice (some ⟨g,0,none⟩) n D:=by
    rcases hb.2 with⟨rfl,rfl⟩|⟨g,cap',cur,rfl,_⟩
    · omega
    · exact⟨g,cap',rfl⟩
  obtain⟨w',hr,hm⟩:=pG (P:=P) (j:=j) us 0 xs (P0++L) w G.mem (by rw[List.getElem?_append_left B];exact J) h1 O
  have Y:(Value.agg us.toArray).cells=us.toArray:=rfl
  have E:(execOp a.eval o).run P w=.ok .skip w':=by simp[execOp,ho,G.eval hx,elP,G.eval hy,Instr.storeAt,Instr.sureAddr,storeVar,Y,iD hs,hr]
  unfold Oper.wp
  rw[E,Oper.upon_skip]
  exact hK undef _ w' rfl (by rw[List.set_append_left _ _ B] at hm;exact hm)
end
theorem Lk {os:List Oper}{m:Nat}{dps:List (List Nat)}{dsts:List Nat}(D:drawOk os m dps dsts=true):dsts.length=m∧∀i,i<m→∀j∈dps.getD i [],j<m:=by
  simp only[drawOk,and_eq_true,Nat.ble_eq,List.all_eq_true,mem_range,Bool.or_eq_true,Nat.blt_eq,beq_iff_eq,decide_eq_true_eq] at D
  obtain⟨⟨⟨⟨⟨⟨X,e⟩,U⟩,Y⟩,E⟩,Z⟩,K⟩:=D
  have G:∀i j,((msk ((List.range os.length).map (depsOf os)) []).getD i 0).testBit j=true→Dep os i j:=yF os _ _ (fun t ds B d hd=>by
    rw[List.getElem?_map] at B
    by_cases h:t<os.length
    · rw[List.getElem?_range h] at B;simp at B;subst B;simpa using hd
    · rw[List.getElem?_eq_none (by simp;omega)] at B;cases B) (fun i j h=>by simp at h)
  have M:∀i j,Dep os i j→i<os.length→j<i:=by
    intro i j h
    induction h with
    | one h=>intro J;exact e _ J _ h
    | more h _ ih=>intro J;have h1:=e _ J _ h;have:=ih O;omega
  refine⟨by have:=congrArg List.length E;simp at this;omega,fun i J j hj=>?_⟩
  have:=M i j (G i j ((K i J).1 j hj)) O
  omega
theorem vC {dsts:List Nat}(i:Nat):(dsts.map some).getD i none=dsts[i]?:=by
  rw[getD_eq_getElem?_getD,List.getElem?_map];cases dsts[i]?<;>rfl
theorem ok3_of {os:List Oper}{m:Nat}{dps:List (List Nat)}{dsts:List Nat}(B:drawOk os m dps dsts=true):drawOk3 os m dps (dsts.map some)=true:=by
  have Y:=(Lk B).1
  simp only[drawOk,and_eq_true] at B
  obtain⟨⟨⟨⟨⟨⟨D,E⟩,G⟩,J⟩,K⟩,M⟩,U⟩:=B
  simp only[drawOk3,and_eq_true]
  refine⟨⟨⟨⟨⟨⟨D,E⟩,G⟩,J⟩,K⟩,?_⟩,U⟩
  have X:=of_decide_eq_true M
  simp only[List.all_eq_true,mem_range,Bool.or_eq_true,beq_iff_eq,bne_iff_ne]
  intro i Z j hj
  by_cases h:i=j
  · exact .inl (.inl h)
  refine .inr fun e=>h ?_
  rw[vC,vC] at e
  exact(List.getElem?_inj O X).1 e
theorem yV {dsts:List Nat}{vf:Nat→Value}:∀(is:List Nat),(∀j∈is,j<dsts.length)→envOf3 (dsts.map some) vf is=envOf dsts vf is
  | [],_=>rfl
  | i::is,h=>by
    have B:=h i mem_cons_self
    have e:(dsts.map some).getD i none=some (dsts.getD i 0):=by rw[vC,List.getElem?_eq_getElem B,getD_eq_getElem?_getD,List.getElem?_eq_getElem B];rfl
    have ih:=yV (vf:=vf) is (fun j D=>h j (mem_cons_of_mem _ D))
    unfold envOf3 envOf at ih ⊢
    rw[List.filterMap_cons,e,map_cons,←ih];rfl
theorem Ji {os:List Oper}{m:Nat}{dps qd:List (List Nat)}{tau:List (Option Nat)}{fl:List Nat}(h:tauOk os m dps qd tau fl=true):tauOk4 os m 1 dps qd tau fl=true:=by
  simp only[tauOk,tauOk4,and_eq_true,List.all_eq_true,mem_range,Bool.or_eq_true,decide_eq_true_eq,beq_iff_eq,Nat.blt_eq,Nat.ble_eq] at h ⊢
  obtain⟨⟨⟨h1,h2⟩,h3⟩,h4⟩:=h
  refine⟨⟨⟨fun i hi=>⟨fun j hj=>⟨.inl ((h1 i hi).1 j hj).1,fun k hk=>.inl (((h1 i hi).1 j hj).2 k hk)⟩,(h1 i hi).2⟩,fun i hi=>?_⟩,fun j hj=>⟨?_,(h3 j hj).2⟩⟩,h4⟩
  · have h9 := h2 i hi
    revert h9
    cases tau.getD i none with
    | none=>exact id
    | some t=>
      intro h9
      simp only[and_eq_true,Bool.or_eq_true,List.all_eq_true,mem_range,beq_iff_eq,Nat.ble_eq,Nat.blt_eq] at h9 ⊢
      exact⟨h9.1.elim (fun e=>.inl (by omega)) .inr,h9.2⟩
  · exact(h3 j hj).1.elim .inl (fun e=>.inr (by omega))
section
variable {P:Program}{N:Nat}{w0:World}{l:List HP}{env:List (Nat×Value)}{Q:Post}{os:List Oper}
theorem wV {id:Nat}(E:P.follows .mixedOrders=true) (m:Nat) (dps:List (List Nat)) (dsts:List Nat) (R:Nat→List Value→Value→List HP→Prop) (M:List (List Nat)) (D:List (Option Nat)) (P0:List HP) (U:List Nat) (G:drawOk os m dps dsts=true) (J:tauOk os m dps M D U=true) (B:dsts.all (fun d=>(lk env d).isNone)=true) (hN:dsts.all (fun d=>Nat.blt d N)=true)
    (X:∀i o,os[i]? = some o→i<m→∀vf e,e os.length=P0→(∀j∈dps.getD i [],R j ((dps.getD j []).map vf) (vf j) (e j))→Obl2 P os.toArray N w0 (D.getD i none) e ((M.getD i []).flatMap e++l) (envOf dsts vf (dps.getD i [])++env) o (R i ((dps.getD i []).map vf)))
    (Y:∀vf e,e os.length=P0→(∀i,i<m→R i ((dps.getD i []).map vf) (vf i) (e i))→HL P N os.toArray w0 (U.flatMap e++l) (envOf dsts vf (List.range m)++env) (os.drop m) Q):HC P N w0 (P0++l) env (.region id os.toArray true) Q:=by
  obtain⟨hl,Z⟩:=Lk G
  have hE:∀vf i,i<m→envOf3 (dsts.map some) vf (dps.getD i [])=envOf dsts vf (dps.getD i []):=fun vf i K=>yV _ (fun j hj=>by have:=Z i K j hj;omega)
  have h:=wU (l:=l) (env:=env) (Q:=Q) (N:=N) (w0:=w0) (id:=id) E m dps (dsts.map some) R M D [P0] U (ok3_of G) (Ji J) (by rw[List.all_map];exact B) (by rw[List.all_map];exact hN)
    (fun i o ho K vf e hP hR=>by rw[hE vf i K];exact X i o ho K vf e (hP 0 (Nat.zero_lt_one)) hR)
    (fun vf e hP hR=>by rw[yV _ (fun j hj=>by rw[mem_range] at hj;omega)];exact Y vf e (hP 0 (Nat.zero_lt_one)) hR)
  simpa using h
theorem Ij {id:Nat}(E:P.follows .mixedOrders=true) (m:Nat) (dps:List (List Nat)) (dsts:List Nat) (R:Nat→List Value→Value→List HP→Prop) (G:drawOk os m dps dsts=true) (e:dsts.all (fun d=>(lk env d).isNone)=true) (Y:dsts.all (fun d=>Nat.blt d N)=true)
    (J:∀i o,os[i]? = some o→i<m→∀vf B,(∀j∈dps.getD i [],R j ((dps.getD j []).map vf) (vf j) (B j))→Obl P os.toArray N w0 ((dps.getD i []).flatMap B++l) (envOf dsts vf (dps.getD i [])++env) o (R i ((dps.getD i []).map vf)))
    (K:∀vf B,(∀i,i<m→R i ((dps.getD i []).map vf) (vf i) (B i))→HL P N os.toArray w0 ((List.range m).flatMap B++l) (envOf dsts vf (List.range m)++env) (os.drop m) Q):HC P N w0 l env (.region id os.toArray true) Q:=by
  have M:∀i,i<m→(dps.getD i []).Nodup:=by
    have h:=G
    simp only[drawOk,and_eq_true,List.all_eq_true,mem_range,decide_eq_true_eq] at h
    exact fun i D=>(h.2 i D).2
  refine wV (P0:=[]) E m dps dsts R dps [] (List.range m) G ?_ e Y (fun i o Z D vf B _ U=>J i o Z D vf B U) (fun vf B _ U=>K vf B U)
  simp only[tauOk,and_eq_true,List.all_eq_true,mem_range,decide_eq_true_eq,Bool.or_eq_true,Nat.blt_eq]
  refine⟨⟨⟨fun i D=>⟨fun j X=>⟨List.contains_iff_mem.2 X,fun k hk=>AI⟩,M i D⟩,fun i D=>AI⟩,fun j X=>⟨.inl X,fun k hk=>AI⟩⟩,List.nodup_range⟩
theorem eI {id:Nat}(hmix:P.follows .mixedOrders=true) (m:Nat) (qs:List Nat) (quiet tail:List Oper) (dps:List (List Nat)) (dsts:List Nat) (R:Nat→List Value→Value→List HP→Prop) (hos:os=quiet++tail) (hq:(Nat.beq quiet.length m&&(List.range m==qs))=true) (hok:drawOk os m dps dsts=true) (hfresh:dsts.all (fun d=>(lk env d).isNone)=true) (hN:dsts.all (fun d=>Nat.blt d N)=true)
    (due:Dues P os.toArray N w0 l env dsts dps R 0 dps quiet)
    (fin:∀vf pf,(∀i,i<m→R i ((dps.getD i []).map vf) (vf i) (pf i))→HL P N os.toArray w0 (qs.flatMap pf++l) (envOf dsts vf qs++env) tail Q):HC P N w0 l env (.region id os.toArray true) Q:=by
  simp only[and_eq_true,Nat.beq_eq,beq_iff_eq] at hq
  refine Ij hmix m dps dsts R hok hfresh hN (fun i o ho hi vf pf hR=>?_) (fun vf pf hR=>?_)
  · have ho' : quiet[i]? = some o := by rw [hos, List.getElem?_append_left (by omega)] at ho; exact ho
    have:=yW quiet dps 0 due i o ho' vf pf hR
    rwa [Nat.zero_add] at this
  · rw[hq.2,hos,List.drop_left' hq.1,←hos];exact fin vf pf hR
theorem bL {id:Nat}(m:Nat) (dps:List (List Nat)) (dsts:List Nat) (vals:List Value) (hchk:(P.follows .mixedOrders&&Nat.ble m os.length&&drawOk os m dps dsts&&dsts.all (fun d=>Nat.blt d N))=true) (hfresh:dsts.all (fun d=>(lk env d).isNone)=true)
    (due:DuesV P os.toArray N w0 l env dsts vals 0 dps (os.take m)) (fin:HL P N os.toArray w0 l (envV dsts vals (List.range m)++env) (os.drop m) Q):HC P N w0 l env (.region id os.toArray true) Q:=by
  simp only[and_eq_true,Nat.ble_eq] at hchk
  obtain⟨⟨⟨h1,h2⟩,h3⟩,h4⟩:=hchk
  refine eI h1 m (List.range m) (os.take m) (os.drop m) dps dsts (fun i _ v p=>v=vals.getD i undef∧p=[]) (take_append_drop m os).symm ?_ h3 hfresh h4 (sA _ _ _ due) (fun vf pf hR=>?_)
  · simp only[and_eq_true,Nat.beq_eq,beq_self_eq_true,and_true,length_take];omega
  · have e1 : (List.range m).flatMap pf = [] := List.flatMap_eq_nil_iff.2 (fun j hj => (hR j (List.mem_range.1 hj)).2)
    have e2:envOf dsts vf (List.range m)=envV dsts vals (List.range m):=List.map_congr_left (fun j hj=>by rw[(hR j (List.mem_range.1 hj)).1])
    rw[e1,e2,nil_append];exact fin
theorem kY {id:Nat}(hmix:P.follows .mixedOrders=true) (m:Nat) (qs:List Nat) (quiet tail:List Oper) (dps:List (List Nat)) (dsts:List Nat) (R:Nat→List Value→Value→List HP→Prop) (qd:List (List Nat)) (tau:List (Option Nat)) (P0:List HP) (fl:List Nat) (mu:Nat)
    (hos:os=quiet++tail) (hq:(Nat.beq quiet.length m&&(List.range m==qs)&&Nat.beq os.length mu)=true) (hok:drawOk os m dps dsts=true) (htau:tauOk os m dps qd tau fl=true) (hfresh:dsts.all (fun d=>(lk env d).isNone)=true) (hN:dsts.all (fun d=>Nat.blt d N)=true)
    (due:Dues2 P os.toArray N w0 l env P0 mu dsts dps qd tau R 0 [] quiet)
    (fin:∀vf pf,pf mu=P0→(∀i,i<m→R i ((dps.getD i []).map vf) (vf i) (pf i))→HL P N os.toArray w0 (fl.flatMap pf++l) (envOf dsts vf qs++env) tail Q):HC P N w0 (P0++l) env (.region id os.toArray true) Q:=by
  simp only[and_eq_true,Nat.beq_eq,beq_iff_eq] at hq
  obtain⟨⟨hq1,hq2⟩,hq3⟩:=hq
  refine wV hmix m dps dsts R qd tau P0 fl hok htau hfresh hN (fun i o ho hi vf pf hP hR=>?_) (fun vf pf hP hR=>?_)
  · have ho' : quiet[i]? = some o := by rw [hos, List.getElem?_append_left (by omega)] at ho; exact ho
    have:=Bf quiet [] 0 due i o ho' vf pf (by rw[←hq3];exact hP) (by rw[Nat.zero_add];exact hR)
    rwa [Nat.zero_add] at this
  · rw[hq2,hos,List.drop_left' hq1,←hos];exact fin vf pf (by rw[←hq3];exact hP) hR
end
section
variable {P:Program}{N:Nat}{w0:World}{l:List HP}{env:List (Nat×Value)}{o:Oper}
theorem oJ {t h:TypeId}{x y:Operand}{k kk:IntKind}{m n r:Int}(B:o.op=.binOp .shl t x y h) (D:ev env x=some (.int k m)) (E:ev env y=some (.int kk n)) (G:k.bits=64)
    (U:0≤n∧n≤63) (J:k.wrap (m*2 ^ n.toNat)=r):RunV P N w0 l env o (.int k r):=fun a w e=>by
    have K:¬n<0:=O
    have M:min n.toNat k.bits=n.toNat:=by rw[G];omega
    subst J
    simp[execOp,B,e.eval D,e.eval E,eqGuard,binOp,Op.shift,K,M]
end
def intOf_o:Value→Int
  | .int _ n=>n
  | _=>0
theorem dP {α:Type}(f:α→List Value) (es:List α) (e:α) (xs:List Value) (h:xs=f e):es.flatMap f++xs=(es++[e]).flatMap f:=by
  rw[List.flatMap_append,h];simp
theorem rZ {α:Type}(f:α→List Value) (g:α→Value) (e:∀a,f a=[g a]) (es:List α):es.flatMap f=es.map g:=by
  induction es with
  | nil=>rfl
  | cons a es ih=>rw[List.flatMap_cons,map_cons,ih,e];rfl
theorem dF {α:Type}(f:α→List Value) (g:α→Value) (e:∀a,f a=[g a]) (es:List α) (d:α) {j:Nat}(h:j<es.length):(es.flatMap f)[j*1]? = some (g (es.getD j d)):=by
  rw[rZ f g e,Nat.mul_one,List.getElem?_map,getD_eq_getElem?_getD,List.getElem?_eq_getElem h];rfl
theorem eF {α:Type}(f:α→List Value) (g:α→Value) (h:∀a,f a=[g a]) (es:List α) (e:α) {j:Nat}{u:Value}(B:u=g e):(es.flatMap f).set (j*1) u=(es.set j e).flatMap f:=by
  rw[rZ f g h,rZ f g h,Nat.mul_one,List.map_set,B]
section
variable {P:Program}{N:Nat}{w0:World}{l:List HP}{env:List (Nat×Value)}{o:Oper}
theorem Hf {t:Array TypeId}{x y:Operand}{m n:Int}(D:o.op=.call { callee:=.builtin .max,args:=#[x,y],argTypes:=t }) (E:ev env x=some (.int .i64 m)) (G:ev env y=some (.int .i64 n)):RunV P N w0 l env o (.int .i64 (if m<n then n else m)):=fun a w B=>by
  have J:∀(e:Array TypeId) (ty:TypeId) (cs:Array Bool) (args:Array Value),builtin .max e ty cs args=(do pure (.value (←Builtin.max_ e ty args))):=fun _ _ _ _=>rfl
  have h:=run_max_int2 (P:=P) w t o.type .i64 .i64 m n
  simp only[execOp,D,resolve,invoke,J,Sem.run_bind,Sem.run_pure,Result.andThen_ok,List.map_toArray,map_cons,map_nil,B.eval E,B.eval G,h]
end
structure Bl where
  b:Bool
abbrev bl0:Bl:=⟨false⟩
def blC (x:Bl):List Value:=[.bool x.b]
def curE (g:Nat) (a:Option Addr) (len cap:Nat):HP:=⟨fun k=>k=g,fun w=>(∃i:Nat,i≤len∧w.cell? ⟨g,1,none⟩=some (.int .i64 (i:Int)))∧(∃h:Int,w.cell? ⟨g,2,none⟩=some (.int .i64 h))∧
  w.cell? ⟨g,0,none⟩=some (.slice a len cap)∧w.frozen? ⟨g,1,none⟩=false∧w.frozen? ⟨g,2,none⟩=false⟩
theorem Gj {w e:World}{g o:Nat}(h:e.heap[g]? = w.heap[g]?):e.cell? ⟨g,o,none⟩=w.cell? ⟨g,o,none⟩:=by simp[World.cell?,h]
theorem Ba {w e:World}{g o:Nat}(h:e.heap[g]? = w.heap[g]?):e.frozen? ⟨g,o,none⟩=w.frozen? ⟨g,o,none⟩:=by simp[World.frozen?,h]
theorem Es (g:Nat) (a:Option Addr) (B D:Nat):(curE g a B D).Ok:=fun w G _ E h=>by
  have e:=E g rfl
  have c:=fun o=>Gj (o:=o) e
  have f:=fun o=>Ba (o:=o) e
  simp only[curE] at h ⊢
  rw[c 0,c 1,c 2,f 1,f 2];exact h
theorem cur_of {w0 w:World}{l:List HP}{g:Nat}{a:Option Addr}{e h:Nat}{z:List Int}(B:Mem w0 (curE g a e h::l) w) (D:BRow .u8 w0 a e h z):Cur w w0.heap.size g a e h z:=by
  obtain⟨E,G,J,K,M⟩:=B.holds _ mem_cons_self
  exact⟨E,G,J,K,M,D.below B.bel,(B.new _ mem_cons_self g rfl).1,D.old⟩
theorem Is {w0 w K:World}{l:List HP}{B g:Nat}{a:Option Addr}{h D:Nat}{z:List Int}(M:Mem w0 (curE g a h D::l) w) (E:Cur K B g a h D z) (G:w.grownBy K (some g)):Mem w0 (curE g a h D::l) K:=
  M.turn G.os G.tape G.output G.size (fun b J U=>G.block b J (fun e=>U (by cases e;rfl))) (Es g a h D) (fun b J=>.inl J) (fun b J=>by cases J;exact E.lt) ⟨E.1,E.2.1,E.2.2.1,E.2.2.2.1,E.2.2.2.2.1⟩
theorem yX {f:FuncId}{vs:Array Value}{R:Ending→Prop}{R':Value→Prop}{w0:World}{l:List HP}{w:World}{g:Nat}{a:Option Addr}{D E:Nat}{z:List Int}(J:Mem w0 (curE g a D E::l) w) (U:BRow .u8 w0 a D E z)
    (h:∀w B,Cur w B g a D E z→Calls Tryz.prog f vs w fun e G=>R e∧Cur G B g a D E z∧w.grownBy G (some g)) (X:∀e,R e→∃v,e=.returned v∧R' v) :
    Calls Tryz.prog f vs w (fun Y Z=>∃K M,Y=.returned K∧(R' K∧M=curE g a D E)∧Mem w0 (M::l) Z):=
  (h w _ (cur_of J U)).mono fun e G ⟨he,hc,hg⟩=>by
    obtain⟨v,hv,hr⟩:=X e he
    exact⟨v,_,hv,⟨hr,rfl⟩,Is J hc hg⟩
theorem qL {w0:World}{l:List HP}{w:World}{g:Nat}{a:Option Addr}{h D:Nat}{z:List Int}(J:Mem w0 (curE g a h D::l) w) (K:BRow .u8 w0 a h D z) (n:Int) (M:1≤n) (U:n≤256) :
    Calls Tryz.prog 44 #[.pointer (some ⟨g,0,none⟩),.int .i64 n] w (fun X Y=>∃E G,X=.returned E∧((∃b:Bool,E=.bool b)∧G=curE g a h D)∧Mem w0 (G::l) Y):=
  yX (R':=fun v=>∃b:Bool,v=.bool b) J K (fun w B Z=>sM B g a h D z n M U w Z) (fun e ⟨b,he⟩=>⟨_,he,b,rfl⟩)
theorem vI {w0:World}{l:List HP}{w:World}{g:Nat}{a:Option Addr}{h D:Nat}{z:List Int}(J:Mem w0 (curE g a h D::l) w) (K:BRow .u8 w0 a h D z) :
    Calls Tryz.prog 100 #[.pointer (some ⟨g,0,none⟩)] w (fun M U=>∃E G,M=.returned E∧((∃d:Dev,Drawn d∧E=.agg #[.int .i64 d.W,.int .i64 d.H,.int .i64 d.T,.int .i64 d.R])∧G=curE g a h D)∧Mem w0 (G::l) U):=
  yX (R':=fun v=>∃d:Dev,Drawn d∧v=.agg #[.int .i64 d.W,.int .i64 d.H,.int .i64 d.T,.int .i64 d.R]) J K (fun w B X=>vZ B g a h D z w X) (fun e ⟨d,Y,Z⟩=>⟨_,Z,d,Y,rfl⟩)
theorem Kd {w:World}{a:Option Addr}{h B:Nat}{z:List Int}(K:BRow .u8 w a h B z) (G:h≤1048576) :
    Calls Tryz.prog 18 #[.slice a h B] w (Ret w (fun v post=>∃g,v=.pointer (some ⟨g,0,none⟩)∧post=[curE g a h B])):=
  (Cz a h B z w G K).mono fun e X ⟨g,M,E,J⟩=>by
    refine⟨_,[curE g a h B],M,⟨g,rfl,rfl⟩,J,?_,?_,?_,AI⟩
    · intro p D;rw[mem_singleton] at D;subst D;exact⟨E.1,E.2.1,E.2.2.1,E.2.2.2.1,E.2.2.2.2.1⟩
    · intro p D;rw[mem_singleton] at D;subst D;exact Es g a h B
    · intro p D b U;rw[mem_singleton] at D;subst D;cases U;exact⟨E.base,E.lt⟩
open Go.RowKit
theorem oB {w0:World}{l:List HP}{w:World}{g:Nat}{a:Option Addr}{h D:Nat}{z:List Int}(J:Mem w0 (curE g a h D::l) w) (K:BRow .u8 w0 a h D z) :
    Calls Tryz.prog 81 #[.pointer (some ⟨g,0,none⟩)] w (fun M U=>∃E G,M=.returned E∧((∃x:Int,E=.int .i64 x∧0≤x∧x<256)∧G=curE g a h D)∧Mem w0 (G::l) U):=
  yX (R':=fun v=>∃x:Int,v=.int .i64 x∧0≤x∧x<256) J K (fun w B X=>sN B g a h D z w X) (fun e ⟨x,Z,Y⟩=>⟨_,Y,(x:Int),rfl,O,O⟩)
theorem dT (g:Nat) (a:Option Addr) (e h:Nat) (z:List Int) (n:Int) (w0:World) (l:List HP) (w:World) (a2:Mem w0 (curE g a e h::l) w) (G:BRow .u8 w0 a e h z) (hn:1≤n∧n≤4294967296) :
   Calls Tryz.prog 47 #[.pointer (some ⟨g,0,none⟩),.int .i64 n] w (fun e_ w_=>∃v_ B,e_=.returned v_∧(fun D B=>(∃x:Int,D=.int .i64 x∧0≤x∧x<n)∧B=curE g a e h) v_ B∧Mem w0 (B::l) w_):=by
 refine gE (N:=37) (args:=[.pointer (some ⟨g,0,none⟩),.int .i64 n]) Tryz.func47 rfl rfl a2 ?_
 refine kR _ [1,0] rfl ?_
 refine aG ?_
 refine bP ?_
 refine aS 1 rfl ?_
 refine fI [4,1,0] rfl ?_
 refine cP ?_
 refine bB ?_
 refine aG ?_
 refine aG ?_
 refine bP ?_
 refine aS 1 rfl ?_
 refine iA rfl rfl rfl rfl rfl rfl (fun h1=>absurd h1 O) (fun h1=>?_)
 refine fI [10,4,1,0] rfl ?_
 refine cP ?_
 refine bB ?_
 refine aV rfl ?_
 refine gP ?_
 refine bB ?_
 refine aG ?_
 refine aG ?_
 refine bP ?_
 refine aS 1 rfl ?_
 refine iA rfl rfl rfl rfl rfl rfl (fun h2=>?_) (fun h2=>?_)
 ·
  refine fI [12,10,4,1,0] rfl ?_
  refine cP ?_
  refine bB ?_
  refine aR rfl ?_
  refine aG ?_
  refine bP ?_
  refine aS 1 rfl ?_
  refine cR (R:=(fun D B=>(∃x:Int,D=.int .i64 x∧0≤x∧x<256)∧B=curE g a e h)) 0 rfl rfl F rfl rfl (fun l' w E=>oB E G) ?_
  intro v3 p4 a3
  obtain⟨⟨ac,rfl,a4,a5⟩,rfl⟩:=a3
  refine dO (l':=(curE g a e h::l)) rfl ?_
  refine aS 1 rfl ?_
  refine kC rfl rfl rfl (fT rfl rfl rfl AE) ?_
  refine aS 1 rfl ?_
  refine fI [12,10,4,1,0] rfl ?_
  refine cP ?_
  refine bB ?_
  refine cW ?_
  refine cK ?_
  exact mT (p':=curE g a e h) rfl rfl (.refl _) ⟨⟨_,rfl,Int.emod_nonneg _ O,Int.emod_lt_of_pos _ O⟩,rfl⟩
 ·
  refine fI [12,10,4,1,0] rfl ?_
  refine cP ?_
  refine bB ?_
  refine aV rfl ?_
  refine gP ?_
  refine bB ?_
  refine aG ?_
  refine bP ?_
  refine aS 1 rfl ?_
  refine cR (R:=(fun D B=>(∃x:Int,D=.int .i64 x∧0≤x∧x<256)∧B=curE g a e h)) 0 rfl rfl F rfl rfl (fun l' w E=>oB E G) ?_
  intro v6 p7 a6
  obtain⟨⟨ad,rfl,a7,a8⟩,rfl⟩:=a6
  refine dO (l':=(curE g a e h::l)) rfl ?_
  refine aS 1 rfl ?_
  refine fI [12,10,5,4,1,0] rfl ?_
  refine cP ?_
  refine bB ?_
  refine aG ?_
  refine bP ?_
  refine aS 1 rfl ?_
  refine cR (R:=(fun D B=>(∃x:Int,D=.int .i64 x∧0≤x∧x<256)∧B=curE g a e h)) 0 rfl rfl F rfl rfl (fun l' w E=>oB E G) ?_
  intro v9 ae J
  obtain⟨⟨a9,rfl,U,X⟩,rfl⟩:=J
  refine dO (l':=(curE g a e h::l)) rfl ?_
  refine aS 1 rfl ?_
  refine fI [12,10,6,5,4,1,0] rfl ?_
  refine cP ?_
  refine bB ?_
  refine aG ?_
  refine bP ?_
  refine aS 1 rfl ?_
  refine cR (R:=(fun D B=>(∃x:Int,D=.int .i64 x∧0≤x∧x<256)∧B=curE g a e h)) 0 rfl rfl F rfl rfl (fun l' w E=>oB E G) ?_
  intro af ag K
  obtain⟨⟨aa,rfl,Y,Z⟩,rfl⟩:=K
  refine dO (l':=(curE g a e h::l)) rfl ?_
  refine aS 1 rfl ?_
  refine fI [12,10,7,6,5,4,1,0] rfl ?_
  refine cP ?_
  refine bB ?_
  refine aG ?_
  refine bP ?_
  refine aS 1 rfl ?_
  refine cR (R:=(fun D B=>(∃x:Int,D=.int .i64 x∧0≤x∧x<256)∧B=curE g a e h)) 0 rfl rfl F rfl rfl (fun l' w E=>oB E G) ?_
  intro ah ai M
  obtain⟨⟨ab,rfl,a0,a1⟩,rfl⟩:=M
  refine dO (l':=(curE g a e h::l)) rfl ?_
  refine aS 1 rfl ?_
  refine fI [12,10,8,7,6,5,4,1,0] rfl ?_
  refine cP ?_
  refine bB ?_
  refine aG ?_
  refine bP ?_
  refine aS 1 rfl ?_
  refine kC rfl rfl rfl (eZ rfl rfl rfl AE) ?_
  refine aS 1 rfl ?_
  refine kC rfl rfl rfl (eZ rfl rfl rfl AE) ?_
  refine kC rfl rfl rfl (pF rfl rfl rfl AE) ?_
  refine aS 1 rfl ?_
  refine kC rfl rfl rfl (eZ rfl rfl rfl AE) ?_
  refine kC rfl rfl rfl (pF rfl rfl rfl AE) ?_
  refine aS 1 rfl ?_
  refine kC rfl rfl rfl (pF rfl rfl rfl AE) ?_
  refine aS 1 rfl ?_
  refine kC rfl rfl rfl (fT rfl rfl rfl AE) ?_
  refine aS 1 rfl ?_
  refine fI [12,10,8,7,6,5,4,1,0] rfl ?_
  refine cP ?_
  refine bB ?_
  refine cW ?_
  exact mT (p':=curE g a e h) rfl rfl (.refl _) ⟨⟨_,rfl,Int.emod_nonneg _ O,Int.emod_lt_of_pos _ O⟩,rfl⟩
def hasB (xs:List Int) (x:Int):Bool:=xs.contains x
section
variable {P:Program}{N:Nat}{w0:World}{l:List HP}{env:List (Nat×Value)}{o:Oper}
theorem uE {t e:TypeId}{x:Operand}{v:Value}(h:o.op=.buildSlice t 1 #[(0,x)]) (B:P.underlying t=some (.slice e)) (D:(P.info? e).map (fun i=>(i.zero,i.size))=some (some (.slice none 0 0),1)) (E:ev env x=some v) (G:v.oneCell'=true) :
    RunQ P N w0 l env o (IsRow e 1 1 [v]):=
  aH (vs:=[(0,v)]) h B D V (by simp[E]) (by cases v<;>first|(exact absurd G Bool.false_ne_true)|kernel_rfl) rfl
end
structure CRow where
  v:Value
  xs:List Int
abbrev crow0:CRow:=⟨.slice none 0 0,[]⟩
def crowC (r:CRow):List Value:=[r.v]
structure RdsCl (w:World) (v:Value) (rs:List CRow):Prop where
  row:RdsW w v 1 rs.length (rs.flatMap crowC)
  xs:∀r∈rs,RdsW w r.v 1 r.xs.length (r.xs.map (Value.int .i64))
theorem RdsCl.below {w e:World}{v:Value}{rs:List CRow}(h:RdsCl w v rs) (B:Below w.heap.size w e):RdsCl e v rs:=⟨h.row.below B,fun r D=>(h.xs r D).below B⟩
theorem RdsCl.at {w:World}{v:Value}{rs:List CRow}(h:RdsCl w v rs) {k:Nat}(e:k<rs.length):RdsW w (rs.getD k crow0).v 1 (rs.getD k crow0).xs.length ((rs.getD k crow0).xs.map (Value.int .i64)):=h.xs _ (eN e)
def LitOk (n:Int) (xs:List Int):Prop:=xs.length≤400∧∀i,i<xs.length→xs.getD i 0≠0∧-n≤xs.getD i 0∧xs.getD i 0≤n
def valI (ps:List Int) (l:Int):Int:=if l<0 then -(ps.getD (-l-1).toNat 0) else ps.getD (l-1).toNat 0
structure UOk (xs ps:List Int) (u:Int) (cf:Bool):Prop where
  conf:cf=true→u=0∧∀i,i<xs.length→valI ps (xs.getD i 0) = -1
  unit:u≠0→cf=false∧valI ps u=0∧(∃i,i<xs.length∧xs.getD i 0=u)∧∀i,i<xs.length→xs.getD i 0=u∨valI ps (xs.getD i 0) = -1
  none:cf=false→u=0→∃i,i<xs.length∧valI ps (xs.getD i 0)≠-1
theorem bF {ps:List HP}{p:HP}{w:World}(h:(bigE ps).holds w) (e:p∈ps):p.holds w:=(h.1 p e).2
theorem wY {w0:World}{l:List HP}(ps:List HP) (l':List HP) (h:l=ps++l'):Conv w0 l (bigE ps::l'):=fun w e=>(h▸e).big
theorem jC {P:Program}{N:Nat}{w0:World}{l:List HP}{env:List (Nat×Value)}{o:Oper}{t e:TypeId}{x:Operand}{v:Value}(B:o.op=.buildSlice t 1 #[(0,x)]) (D:P.underlying t=some (.slice e)) (E:(P.info? e).map (fun i=>(i.zero,i.size))=some (some (.slice none 0 0),1)) (G:ev env x=some v) (J:∀w,Mem w0 l w→v.oneCell'=true) :
    RunQ P N w0 l env o (IsRow e 1 1 [v]):=fun a w h=>uE B D E G (J w h.mem) a w h
def RdsAll (w:World) (rs:List CRow):Prop:=∀r∈rs,RdsW w r.v 1 r.xs.length (r.xs.map (Value.int .i64))
theorem RdsAll.nil (w:World):RdsAll w []:=fun r e=>by cases e
theorem RdsAll.at {w:World}{rs:List CRow}(h:RdsAll w rs) {k:Nat}(e:k<rs.length):RdsW w (rs.getD k crow0).v 1 (rs.getD k crow0).xs.length ((rs.getD k crow0).xs.map (Value.int .i64)):=h _ (eN e)
theorem RdsAll.cons {w:World}{rs B:List CRow}{u:CRow}(h:RdsAll w rs) (D:RdsW w u.v 1 u.xs.length (u.xs.map (Value.int .i64))) (E:∀q∈B,q=u∨q∈rs):RdsAll w B:=fun q e=>by
  rcases E q e with rfl|e
  · exact D
  · exact h q e
section
variable {P:Program}{N:Nat}{w0:World}{l l':List HP}{env:List (Nat×Value)}{Q:Post}{ops:Array Oper}{rest:List Oper}{o:Oper}{d:Nat}
theorem gC {p:Prop}{e:Exit}(h:∀w,Mem w0 l w→p) (k:p→HQ N w0 l env e Q):HQ N w0 l env e Q:=fun a w B=>k (h w B.mem) a w B
end
def getL {α:Type}:List α→Nat→Option α
  | x::_,0=>some x
  | _::xs,k+1=>getL xs k
  | [],_=>none
def dropL {α:Type}:Nat→List α→Option (List α)
  | 0,l=>some l
  | k+1,_::l=>dropL k l
  | _+1,[]=>none
def pickL {α : Type} (l : List α) : List Nat → List α → Option (List α)
  | [],acc=>some acc
  | k::ks,acc=>match getL l k with
    | some p=>pickL l ks (p::acc)
    | none=>none
def setLP {α : Type} : List α → Nat → α → Option (List α)
  | _::xs,0,p=>some (p::xs)
  | x::xs,k+1,p=>match setLP xs k p with
    | some r=>some (x::r)
    | none=>none
  | [],_,_=>none
def takeL {α : Type} : Nat → List α → Option (List α × List α)
  | 0,l=>some ([],l)
  | k+1,x::l=>match takeL k l with
    | some (a,b)=>some (x::a,b)
    | none=>none
  | _+1,[]=>none
theorem Em {α:Type}:∀(l:List α) (k:Nat),getL l k=l[k]?
  | [],k=>by simp[getL]
  | x::xs,0=>by simp[getL]
  | x::xs,k+1=>by simp only[getL,List.getElem?_cons_succ];exact Em xs k
theorem vH {α:Type}:∀(m:Nat) {l t:List α},dropL m l=some t→∃a,l=a++t∧a.length=m
  | 0,l,t,h=>by simp only[dropL,Option.some.injEq] at h;exact⟨[],by simp[h],rfl⟩
  | k+1,[],t,h=>by simp[dropL] at h
  | k+1,x::l,t,h=>by
    simp only[dropL] at h
    obtain⟨a,e,B⟩:=vH k h
    exact⟨x::a,by rw[e];rfl,by simp[B]⟩
theorem Aa {α:Type}{l:List α}:∀(ks:List Nat) {acc l':List α},pickL l ks acc=some l'→∃ds,l'=ds++acc∧ks.reverse.map (fun k=>l[k]?)=ds.map some
  | [],acc,l',h=>by simp only[pickL,Option.some.injEq] at h;exact⟨[],by simp[h],rfl⟩
  | k::ks,acc,l',h=>by
    simp only[pickL] at h
    rw[Em] at h
    split at h
    · rename_i p hp
      obtain⟨ds,e,hd⟩:=Aa ks h
      exact⟨ds++[p],by rw[e];simp,by rw[List.reverse_cons,map_append,map_append,hd];simp[hp]⟩
    · cases h
theorem nO {α:Type}:∀ {l:List α}{i:Nat}{p:α}{l':List α},setLP l i p=some l'→l.set i p=l'
  | [],i,p,l',h=>by simp[setLP] at h
  | x::xs,0,p,l',h=>by simp only[setLP,Option.some.injEq] at h;rw[←h];rfl
  | x::xs,k+1,p,l',h=>by
    simp only[setLP] at h
    split at h
    · rename_i r hr
      simp only[Option.some.injEq] at h
      rw[←h,List.set_cons_succ,nO hr]
    · cases h
theorem tS {α:Type}:∀(m:Nat) {l a b:List α},takeL m l=some (a,b)→l=a++b
  | 0,l,a,b,h=>by simp only[takeL,Option.some.injEq,Prod.mk.injEq] at h;rw[←h.1,←h.2];rfl
  | k+1,[],a,b,h=>by simp[takeL] at h
  | k+1,x::l,a,b,h=>by
    simp only[takeL] at h
    split at h
    · rename_i a' b' hr
      simp only[Option.some.injEq,Prod.mk.injEq] at h
      rw[←h.1,←h.2,tS k hr];rfl
    · cases h
theorem yZ {w0:World}{l l' t:List HP}(m:Nat) (e:List Nat) (E:dropL m l=some t) (h:pickL l e t=some l') (D:e.reverse.Nodup∧∀k∈e.reverse,k<m):Conv w0 l l':=by
  obtain⟨a,rfl,K⟩:=vH m E
  obtain⟨G,rfl,B⟩:=Aa e h
  refine Gg (src:=a) (dst:=G) (l:=t) e.reverse D.1 ?_
  rw[←B]
  refine List.map_congr_left fun k J=>?_
  have:=D.2 k J
  exact(List.getElem?_append_left O).symm
section
variable {P:Program}{N:Nat}{w0:World}{l l' t ps:List HP}{env env':List (Nat×Value)}{Q:Post}{o:Oper}{ops:Array Oper}{rest:List Oper}{d:Nat}
theorem bN {e:Exit}(m:Nat) (B:List Nat) (D:dropL m l=some t) (h:pickL l B t=some l') (E:B.reverse.Nodup∧∀k∈B.reverse,k<m) (k:HQ N w0 l' env e Q):HQ N w0 l env e Q:=fH l' (yZ m B D h E) k
theorem jF {c:Code}(m:Nat) (e:List Nat) (B:dropL m l=some t) (h:pickL l e t=some l') (D:e.reverse.Nodup∧∀k∈e.reverse,k<m) (k:HC P N w0 l' env c Q):HC P N w0 l env c Q:=fK l' (yZ m e B h D) k
theorem kQ (m:Nat) (e:List Nat) (B:dropL m l=some t) (h:pickL l e t=some l') (D:e.reverse.Nodup∧∀k∈e.reverse,k<m) (k:HL P N ops w0 l' env rest Q):HL P N ops w0 l env rest Q:=jZ l' (yZ m e B h D) k
theorem dN {e:Exit}(m:Nat) (h:takeL m l=some (ps,t)) (k:HQ N w0 (bigE ps::t) env e Q):HQ N w0 l env e Q:=fH _ (wY ps t (tS m h)) k
theorem Kp (m:Nat) (h:takeL m l=some (ps,t)) (k:HL P N ops w0 (bigE ps::t) env rest Q):HL P N ops w0 l env rest Q:=jZ _ (wY ps t (tS m h)) k
theorem bQ {R:Value→List HP→Prop}(e:sub env' env) (B:l=l') (h:RunQ P N w0 l' env' o R):RunQ P N w0 l env o R:=by subst B;exact aZ e h
theorem cL (e:sub env' env) (B:l=l') (h:HL P N ops w0 l' env' rest Q):HL P N ops w0 l env rest Q:=by subst B;exact yR e (.refl _) h
theorem eJ {C X e:List HP}{R:Value→List HP→Prop}(B:sub env' env) (D:X=e) (h:RunM P N w0 C e env' o R):RunM P N w0 C X env o R:=by subst D;exact Jw B (.refl _) h
theorem bT {t e s bytes n m i:Nat}{x y:Operand}{v u z:Value}{xs h:List Value}(M:o.dst=some d) (U:Nat.blt d N=true) (X:want ops env o.guard=some true) (Y:o.op=.call { callee:=.builtin .append,args:=#[x,y],argTypes:=#[t,t] })
    (Z:P.underlying t=some (.slice e)) (D:(P.info? e).map (fun i=>(i.zero,i.size,i.bytes))=some (some z,s,bytes)) (E:(Nat.beq z.cells.size s&&Nat.blt 0 s&&Nat.ble bytes 1000)=true)
    (hx:ev env x=some v) (hy:ev env y=some u) (hi:l[i]? = some (rowE e s v n xs)) (hr:Rd w0 l u s m h) (h1:∀q∈h,q.oneCell'=true) (G:n+m≤100000000000)
    {n':Nat}{xs':List Value}(J:n+m=n') (K:xs++h=xs') {L:Value→List HP}(hL:∀B,setLP l i (rowE e s B n' xs')=some (L B))
    (k:∀B,HL P N ops w0 (L B) ((d,B)::env) rest Q):HL P N ops w0 l env (o::rest) Q:=Fv M U X Y Z D E hx hy hi hr h1 G J K (fun B=>nO (hL B)) k
theorem dS {t i e h n j:Nat}{x y:Operand}{xs:List Value}{v u:Value}(J:o.dst=none) (K:want ops env o.guard=some true) (M:o.op=.store t x y) (U:(P.info? t).map (·.size)=some 1)
    (X:ev env x=some (elP v j)) (Y:ev env y=some u) (Z:u.oneCell'=true) (hi:l[i]? = some (rowE e h v n xs)) (B:j<n*h)
    {n':Nat}{xs':List Value}(D:n=n') (E:xs.set j u=xs') (G:setLP l i (rowE e h v n' xs')=some l') (k:HL P N ops w0 l' env rest Q):HL P N ops w0 l env (o::rest) Q:=Dc J K M U X Y Z hi B D E (nO G) k
theorem gB {t b off i:Nat}{x y:Operand}{cs cs':Array Value}{D:TypeId}{v:Value}(E:o.dst=none) (G:want ops env o.guard=some true) (J:o.op=.store t x y) (K:(P.info? t).map (·.size)=some 1)
    (M:ev env x=some (.pointer (some ⟨b,off,none⟩))) (U:ev env y=some v) (X:v.oneCell'=true) (Y:l[i]? = some (boxE b cs D)) (e:Nat.blt off cs.size=true) (h:cs.setIfInBounds off v=cs')
    (B:setLP l i (boxE b cs' D)=some l') (k:HL P N ops w0 l' env rest Q):HL P N ops w0 l env (o::rest) Q:=Av E G J K M U X Y e (by rw[h];exact nO B) k
theorem cA {t b off i:Nat}{x y:Operand}{cs cs':Array Value}{D:TypeId}{us:List Value}(E:o.dst=none) (G:want ops env o.guard=some true) (J:o.op=.store t x y) (K:(P.info? t).map (·.size)=some us.length)
    (M:ev env x=some (.pointer (some ⟨b,off,none⟩))) (U:ev env y=some (.agg us.toArray)) (X:l[i]? = some (boxE b cs D)) (Y:∀u∈us,u.oneCell'=true) (e:Nat.ble (off+us.length) cs.size=true) (h:putN cs off us=cs')
    (B:setLP l i (boxE b cs' D)=some l') (k:HL P N ops w0 l' env rest Q):HL P N ops w0 l env (o::rest) Q:=yQ E G J K M U X Y e h (nO B) k
end
theorem hF {w0:World}{l:List HP}:Conv w0 l (bigE []::l):=fun w e=>Mem.big (ps:=[]) e
theorem fS:(∀(f:Nat→List HP) (a:Nat) (e:List Nat),(a::e).flatMap f=f a++e.flatMap f)∧(∀f:Nat→List HP,([]:List Nat).flatMap f=[])∧(∀xs:List HP,xs++[]=xs)∧(∀xs:List HP,[]++xs=xs)∧(∀(x:HP) (xs h:List HP),(x::xs)++h=x::(xs++h)):=⟨AI,AI,AI,AI,AI⟩
def skL {α : Type} : List α → List Nat → Option (List α)
  | _,[]=>some []
  | l,g::gs=>match dropL g l with
    | some (x::t)=>match skL t gs with
      | some r=>some (x::r)
      | none=>none
    | _=>none
theorem Gz {α : Type} : ∀ (gs : List Nat) {l l' : List α}, skL l gs = some l' → l'.Sublist l
  | [],l,l',h=>by simp only[skL,Option.some.injEq] at h;subst h;exact List.nil_sublist _
  | g::gs,l,l',h=>by
    simp only[skL] at h
    split at h
    · rename_i x t hd
      split at h
      · rename_i r hr
        simp only[Option.some.injEq] at h
        subst h
        obtain⟨a,e,_⟩:=vH g hd
        rw[e]
        exact((Gz gs hr).cons_cons x).trans (sublist_append_right a _)
      · cases h
    · cases h
theorem eA {α:Type}{l l':List α}(gs:List Nat) (h:skL l gs=some l'):l'.Sublist l:=Gz gs h
theorem cZ {α:Type}{l l' t:List α}(h:l'++t=l):l'.Sublist l:=h▸List.sublist_append_left l' t
def pickO (env : List (Nat × Value)) : List (Nat × Value) → Option (List (Nat × Value))
  | []=>some []
  | (k,_)::t=>match lk env k with
    | some v=>match pickO env t with
      | some r=>some ((k,v)::r)
      | none=>none
    | none=>none
theorem wQ {env : List (Nat × Value)} : ∀ (t : List (Nat × Value)) {r : List (Nat × Value)}, pickO env t = some r → sub r env
  | [],r,h=>by simp only[pickO,Option.some.injEq] at h;subst h;exact aA _
  | (k,u)::t,r,h=>by
    simp only[pickO] at h
    split at h
    · rename_i v hv
      split at h
      · rename_i r' hr
        simp only[Option.some.injEq] at h
        subst h
        exact sub_cons hv (wQ t hr)
      · cases h
    · cases h
theorem bV {env env':List (Nat×Value)}(h:pickO env env'=some env'):sub env' env:=wQ env' h
theorem tE {e h env:List (Nat×Value)}(B:sub e env) (D:sub h env):sub (e++h) env:=fun p E=>(List.mem_append.1 E).elim (B p) (D p)
section
variable {P:Program}{N:Nat}{w0:World}{l l':List HP}{env env' ec:List (Nat×Value)}{Q:Post}{o:Oper}{ops:Array Oper}{os rest:List Oper}{d:Nat}
def hdr (ops:Array Oper) (N:Nat) (env:List (Nat×Value)) (o:Oper):Option Nat:=match o.dst with
  | none=>none
  | some d=>bif Nat.blt d N then (match want ops env o.guard with
    | some true=>some d
    | _=>none) else none
theorem lE (h:hdr ops N env o=some d):o.dst=some d∧Nat.blt d N=true∧want ops env o.guard=some true:=by
  unfold hdr at h
  split at h
  · cases h
  · rename_i d' hd
    cases hN:Nat.blt d' N with
    | false=>rw[hN] at h;cases h
    | true=>
      rw[hN] at h;simp only[cond_true] at h
      split at h
      · rename_i hw;cases h;exact⟨hd,hN,hw⟩
      · cases h
theorem aN {v:Value}(h:hdr ops N env o=some d) (r:RunV P N w0 l env o v) (k:HL P N ops w0 l ((d,v)::env) rest Q):HL P N ops w0 l env (o::rest) Q:=kC (lE h).1 (lE h).2.1 (lE h).2.2 r k
theorem cM {v:Value}(h:hdr ops N env o=some d) (r:RunQ P N w0 l env o (fun e post=>e=v∧post=[])) (k:HL P N ops w0 l ((d,v)::env) rest Q):HL P N ops w0 l env (o::rest) Q:=Ii (lE h).1 (lE h).2.1 (lE h).2.2 r k
theorem cH {e s n:Nat}{cs:List Value}(h:hdr ops N env o=some d) (r:RunQ P N w0 l env o (IsRow e s n cs)) (k:∀b,HL P N ops w0 (rowE e s (.slice (some ⟨b,0,none⟩) n n) n cs::l) ((d,.slice (some ⟨b,0,none⟩) n n)::env) rest Q):HL P N ops w0 l env (o::rest) Q:=Ih (lE h).1 (lE h).2.1 (lE h).2.2 r k
theorem cU {cs:Array Value}{t:TypeId}(h:hdr ops N env o=some d) (r:RunQ P N w0 l env o (IsBox cs t)) (k:∀b,HL P N ops w0 (boxE b cs t::l) ((d,.pointer (some ⟨b,0,none⟩))::env) rest Q):HL P N ops w0 l env (o::rest) Q:=hl_box (lE h).1 (lE h).2.1 (lE h).2.2 r k
def idxS (P:Program) (t s:Nat):Bool:=match P.underlying t with
  | some (.slice e)=>match P.info? e with
    | some i=>Nat.beq i.size s
    | none=>false
  | _=>false
theorem Km {t s:Nat}(h:idxS P t s=true):∃e,P.underlying t=some (.slice e)∧(P.info? e).map (·.size)=some s:=by
  unfold idxS at h
  split at h
  · rename_i e he
    split at h
    · rename_i i hi
      exact⟨e,he,by rw[hi,Option.map_some,Nat.eq_of_beq_eq_true h]⟩
    · cases h
  · cases h
theorem cV {t n:Nat}{cs:List Value}{v:Value}{x i:Operand}{m:Int}{kk:IntKind}(s:Nat) (h:o.op=.indexAddr t x i) (B:idxS P t s=true) (D:ev env x=some v) (E:ev env i=some (.int kk m)) (G:Rd w0 l v s n cs) (J:0≤m:=by omega) (K:m<n:=by omega):RunV P N w0 l env o (elP v (m.toNat*s)):=by
  obtain⟨e,M,U⟩:=Km B
  exact kT h M U D E G J K
def isSl (P:Program) (t:Nat):Bool:=match P.underlying t with
  | some (.slice _)=>true
  | _=>false
theorem Kl {t:Nat}(h:isSl P t=true):∃e,P.underlying t=some (.slice e):=by
  unfold isSl at h
  split at h
  · rename_i e he;exact⟨e,he⟩
  · cases h
theorem eV {t s n:Nat}{v:Value}{cs:List Value}{x:Operand}(B:o.op=.call { callee:=.builtin .len,args:=#[x],argTypes:=#[t] }) (D:isSl P t=true) (E:ev env x=some v) (G:Rd w0 l v s n cs):RunV P N w0 l env o (.int .i64 (n:Int)):=by
  obtain⟨e,h⟩:=Kl D
  exact Hh B h E G
theorem lP {t n:Nat}{x:Operand}{v:Value}{xs:List Int}{m:Int}(e:o.op=.load t x) (B:aggB P t=some false) (D:ev env x=some (elP v (m.toNat*1))) (E:Rd w0 l v 1 n (xs.map (Value.int .i64))) (h:m.toNat<xs.length:=by omega):RunV P N w0 l env o (.int .i64 (xs.getD m.toNat 0)):=aL e B D E (cJ h)
theorem lD {t n m:Nat}{x:Operand}{v:Value}{xs:List Int}(e:o.op=.load t x) (B:aggB P t=some false) (D:ev env x=some (elP v ((m:Int).toNat*1))) (E:Rd w0 l v 1 n (xs.map (Value.int .i64))) (h:m<xs.length:=by omega):RunV P N w0 l env o (.int .i64 (xs.getD m 0)):=aL e B D E (cJ (m:=(m:Int)) h)
theorem fY {t:TypeId}{x:Operand}{f b off:Nat}(k0:Nat) (e:o.op=.fieldAddr t x f) (h:fieldOff P t f=some k0) (B:ev env x=some (.pointer (some ⟨b,off,none⟩))):RunV P N w0 l env o (.pointer (some ⟨b,off+k0,none⟩)):=qE e h B
theorem eY {t e:TypeId}{x y:Operand}{m n:Int}(h:o.op=.binOp .add t x y e) (B:ev env x=some (.int .i64 m)) (D:ev env y=some (.int .i64 n)) (E : -9223372036854775808≤m+n∧m+n≤9223372036854775807:=by constructor<;>omega):RunV P N w0 l env o (.int .i64 (m+n)):=pF h B D E
theorem nK {t e:TypeId}{x y:Operand}{m n:Int}(h:o.op=.binOp .sub t x y e) (B:ev env x=some (.int .i64 m)) (D:ev env y=some (.int .i64 n)) (E : -9223372036854775808≤m-n∧m-n≤9223372036854775807:=by constructor<;>omega):RunV P N w0 l env o (.int .i64 (m-n)):=nQ h B D E
theorem dL {y:Code}(h:HC P N w0 l env y Q):HL P N ops w0 l env [] (Exit.then (y.wp P Q) Q):=cP (bB h)
theorem eS (k:Nat) (h:evRun ops N k os env=some (env',[])) (H:HQ N w0 l env' .normal Q):HL P N ops w0 l env os Q:=aS k h (cP H)
theorem bG (k:Nat) {y:Code}(h:evRun ops N k os env=some (env',[])) (H:HC P N w0 l env' y Q):HL P N ops w0 l env os (Exit.then (y.wp P Q) Q):=aS k h (dL H)
theorem dW {i:Nat}{y:Code}(h:HL P N os.toArray w0 l env os (Exit.then (y.wp P Q) Q)):HC P N w0 l env (.seq (.region i os.toArray false) y) Q:=aG (bP h)
theorem kE {i:Nat}{y z:Code}(h:HL P N os.toArray w0 l env os (Exit.then (y.wp P (Exit.then (z.wp P Q) Q)) (Exit.then (z.wp P Q) Q))):HC P N w0 l env (.seq (.seq (.region i os.toArray false) y) z) Q:=aG (dW h)
theorem cN {i:Nat}(k:Nat) (h:evRun os.toArray N k os env=some (env',rest)) (H:HL P N os.toArray w0 l env' rest Q):HC P N w0 l env (.region i os.toArray false) Q:=bP (aS k h H)
theorem cF {i:Nat}{y:Code}(k:Nat) (h:evRun os.toArray N k os env=some (env',[])) (H:HC P N w0 l env' y Q):HC P N w0 l env (.seq (.region i os.toArray false) y) Q:=dW (bG k h H)
theorem tcQ {c:Operand}{x y z:Code}(e:ev env c=some (.bool true)) (h:HC P N w0 l env x (Exit.then (z.wp P Q) Q)):HC P N w0 l env (.seq (.cond c x y) z) Q:=aG (aR e h)
theorem fcQ {c:Operand}{x y z:Code}(e:ev env c=some (.bool false)) (h:HC P N w0 l env y (Exit.then (z.wp P Q) Q)):HC P N w0 l env (.seq (.cond c x y) z) Q:=aG (aV e h)
theorem jQ {c:Operand}{x:Code}(e:ev env c=some (.bool false)) (h:HQ N w0 l env .normal Q):HC P N w0 l env (.cond c x .skip) Q:=aV e (gP h)
theorem eC {y:Code}(h:HC P N w0 l env y Q):HC P N w0 l env .skip (Exit.then (y.wp P Q) Q):=gP (bB h)
theorem eB {i:Nat}{y:Code}(h:HC P N w0 l env y Q):HQ N w0 l env .normal (Exit.inBlock i (Exit.then (y.wp P Q) Q)):=cG (bB h)
theorem jR {i:Nat}{c y:Code}(h:HC P N w0 l env c (Exit.inBlock i (Exit.then (y.wp P Q) Q))):HC P N w0 l env (.seq (.block i c) y) Q:=aG (bS h)
theorem fM {i:Nat}{K e:Act→World→Prop}{Q:Post}(h:HQ N w0 l env (.exit i) Q):HQ N w0 l env (.exit i) (Exit.then K (Exit.then e Q)):=h
theorem rR {K e:Act→World→Prop}{Q:Post}(h:HQ N w0 l env .ret Q):HQ N w0 l env .ret (Exit.then K (Exit.then e Q)):=h
theorem fL {v u:Value}(B:want ops env o.guard=some true) (h:RunV P N w0 l env o v) (e:v=u):ObV P ops N w0 l env o u:=.inl ⟨B,lO h e⟩
theorem kB {R:Value→List HP→Prop}{dsts:List Nat}{vf:Nat→Value}{e:Nat→List HP}(qs is:List Nat) (B:want ops (envOf dsts vf is++env) o.guard=some true) (h:RunQ P N w0 (qs.flatMap e++l) (envOf dsts vf is++env) o R):Obl P ops N w0 (qs.flatMap e++l) (envOf dsts vf is++env) o R:=.inl ⟨B,h⟩
theorem cD {R:Value→List HP→Prop}{dsts:List (Option Nat)}{vf:Nat→Value}{e:Nat→List HP}(qs is:List Nat) (B:want ops (envOf3 dsts vf is++env) o.guard=some true) (h:RunQ P N w0 (qs.flatMap e++l) (envOf3 dsts vf is++env) o R):Obl P ops N w0 (qs.flatMap e++l) (envOf3 dsts vf is++env) o R:=.inl ⟨B,h⟩
theorem fG {R:Value→List HP→Prop}(e:want ops env o.guard=some true) (B:sub env' env) (h:RunQ P N w0 l env' o R):Obl P ops N w0 l env o R:=.inl ⟨e,bC B (.refl _) h⟩
theorem eH {X:List HP}{R:Value→List HP→Prop}(e:want ops env o.guard=some true) (B:sub env' env) (h:RunQ P N w0 l env' o R):Obl P ops N w0 (X++l) env o R:=.inl ⟨e,bC B z9 h⟩
theorem lC {α:Type}{c:Code}(D:List Nat) (J:pickE env D []=some ec) (L:α→List HP) (E:α→List (Nat×Value)) (G:α→Prop) (m:α→Nat) (h:α) (K:G h) (M:sub (E h) env) (U:(L h).Sublist l)
    (e:∀x,G x→HC P N w0 (L x) (E x++ec) c (Exit.then (fun X Y=>∃B,G B∧m B<m x∧St N w0 (L B) (E B++ec) X Y) Q)):HC P N w0 l env (.loop c) Q:=Aw L (fun x=>E x++ec) G m h K (tE M (aD D J)) U e
theorem iG {α β:Type}{c:Code}(K:List Nat) (M:pickE env K []=some ec) (L:α→β→List HP) (E:α→β→List (Nat×Value)) (G:α→β→Prop) (m:α→β→Nat) (h:α) (B:β) (U:G h B) (X:sub (E h B) env) (Y:(L h B).Sublist l)
    (e:∀x y,G x y→HC P N w0 (L x y) (E x y++ec) c (Exit.then (fun Z w'=>∃D J,G D J∧m D J<m x y∧St N w0 (L D J) (E D J++ec) Z w') Q)):HC P N w0 l env (.loop c) Q:=nX L (fun x y=>E x y++ec) G m h B U (tE X (aD K M)) Y e
theorem fP {α β γ:Type}{c:Code}(U:List Nat) (X:pickE env U []=some ec) (L:α→β→γ→List HP) (E:α→β→γ→List (Nat×Value)) (G:α→β→γ→Prop) (m:α→β→γ→Nat) (h:α) (B:β) (D:γ) (Y:G h B D) (Z:sub (E h B D) env) (hl:(L h B D).Sublist l)
    (e:∀x y z,G x y z→HC P N w0 (L x y z) (E x y z++ec) c (Exit.then (fun a' w'=>∃J K M,G J K M∧m J K M<m x y z∧St N w0 (L J K M) (E J K M++ec) a' w') Q)):HC P N w0 l env (.loop c) Q:=vA L (fun x y z=>E x y z++ec) G m h B D Y (tE Z (aD U X)) hl e
theorem mS {α β γ δ:Type}{c:Code}(Y:List Nat) (Z:pickE env Y []=some ec) (L:α→β→γ→δ→List HP) (E:α→β→γ→δ→List (Nat×Value)) (G:α→β→γ→δ→Prop) (m:α→β→γ→δ→Nat) (h:α) (B:β) (D:γ) (J:δ) (hG:G h B D J) (hs:sub (E h B D J) env) (hl:(L h B D J).Sublist l)
    (e:∀x y z u,G x y z u→HC P N w0 (L x y z u) (E x y z u++ec) c (Exit.then (fun a' w'=>∃K M U X,G K M U X∧m K M U X<m x y z u∧St N w0 (L K M U X) (E K M U X++ec) a' w') Q)):HC P N w0 l env (.loop c) Q:=uZ L (fun x y z u=>E x y z u++ec) G m h B D J hG (tE hs (aD Y Z)) hl e
end
namespace Bit
open Go
theorem i64_small (n:Nat) (h:n<4294967296):IntKind.i64.wrap (n:Int)=n:=by
  rw[IntKind.wrap_i64];omega
theorem ofInt_small (a:Nat) (h:a<4294967296):(BitVec.ofInt 64 (a:Int)).toNat=a:=by
  rw[BitVec.ofInt_natCast,BitVec.toNat_ofNat];omega
theorem and_nat (a b:Nat) (e:a<4294967296) (h:b<4294967296):bits .and .i64 (a:Int) (b:Int)=((a&&& b:Nat):Int):=by
  have B:a&&& b<2 ^ 32:=Nat.and_lt_two_pow _ O
  show IntKind.i64.wrap ((BitVec.ofInt 64 (a:Int)&&& BitVec.ofInt 64 (b:Int)).toNat:Int)=_
  rw[BitVec.toNat_and,ofInt_small a e,ofInt_small b h,i64_small _ O]
theorem xor_nat (a b:Nat) (e:a<4294967296) (h:b<4294967296):bits .xor .i64 (a:Int) (b:Int)=((a ^^^ b:Nat):Int):=by
  have B:a ^^^ b<2 ^ 32:=Nat.xor_lt_two_pow O O
  show IntKind.i64.wrap ((BitVec.ofInt 64 (a:Int) ^^^ BitVec.ofInt 64 (b:Int)).toNat:Int)=_
  rw[BitVec.toNat_xor,ofInt_small a e,ofInt_small b h,i64_small _ O]
theorem xor_int (a b:Int) (e:0≤a) (B:a<4294967296) (h:0≤b) (D:b<4294967296):bits .xor .i64 a b=((a.toNat ^^^ b.toNat:Nat):Int):=by
  obtain⟨x,rfl⟩:=Int.eq_ofNat_of_zero_le e
  obtain⟨y,rfl⟩:=Int.eq_ofNat_of_zero_le h
  exact xor_nat x y O O
theorem and_one (x:Int) (e:0≤x) (h:x<4294967296):bits .and .i64 x 1=x % 2:=by
  obtain⟨a,rfl⟩:=Int.eq_ofNat_of_zero_le e
  have:=and_nat a 1 O O
  rw[Nat.and_one_is_mod] at this
  exact this
theorem bit_xor (x y k:Nat):(x ^^^ y) / 2 ^ k % 2=(x / 2 ^ k % 2) ^^^ (y / 2 ^ k % 2):=by
  have:=Nat.testBit_xor x y k
  rw[←Nat.toNat_testBit,←Nat.toNat_testBit,←Nat.toNat_testBit,this]
  cases x.testBit k<;>cases y.testBit k<;>rfl
end Bit
section
variable {P:Program}{N:Nat}{w0:World}{l:List HP}{env:List (Nat×Value)}{o:Oper}
theorem xV {t:Array TypeId}{x y:Operand}{m n:Int}(E:o.op=.call { callee:=.builtin .min,args:=#[x,y],argTypes:=t }) (G:ev env x=some (.int .i64 m)) (J:ev env y=some (.int .i64 n)):RunV P N w0 l env o (.int .i64 (min m n)):=fun a w D=>by
  have e:(if n<m then n else m)=min m n:=by split<;>omega
  have K:∀(B:Array TypeId) (ty:TypeId) (cs:Array Bool) (args:Array Value),builtin .min B ty cs args=(do pure (.value (←Builtin.min_ B ty args))):=fun _ _ _ _=>rfl
  have h:=run_min_int2 (P:=P) w t o.type .i64 .i64 m n
  simp only[execOp,E,resolve,invoke,K,Sem.run_bind,Sem.run_pure,Result.andThen_ok,List.map_toArray,map_cons,map_nil,D.eval G,D.eval J,h,GT.gt,e]
end
theorem dJ {α:Type}{l:List α}{k:Nat}{d:α}(h:k<l.length):l.getD k d∈l:=by
  rw[getD_eq_getElem?_getD,List.getElem?_eq_getElem h];exact List.getElem_mem h
theorem gM {α:Type}{l m:List α}{k:Nat}{d:α}(h:k<l.length):(l++m).getD k d=l.getD k d:=by
  rw[getD_eq_getElem?_getD,List.getElem?_append_left h,←getD_eq_getElem?_getD]
theorem hC {α:Type}{l m:List α}{k:Nat}{d:α}(h:l.length≤k):(l++m).getD k d=m.getD (k-l.length) d:=by
  rw[getD_eq_getElem?_getD,List.getElem?_append_right h,←getD_eq_getElem?_getD]
structure An where
  a:Int
  b:Int
abbrev an0:An:=⟨0,0⟩
def anC (r:An):List Value:=[.int .i64 r.a,.int .i64 r.b]
structure Sq where
  kd:Int
  it:Int
  iv:Value
  xs:List Int
abbrev sq0:Sq:=⟨0,0,.slice none 0 0,[]⟩
def sqC (r:Sq):List Value:=[.int .i64 r.kd,.int .i64 r.it,r.iv]
abbrev sqPart (r:Sq):HP:=rowE 3 1 r.iv r.xs.length (r.xs.map (Value.int .i64))
abbrev sqsE (v:Value) (ss:List Sq):HP:=bigE [bigE (ss.map sqPart),rowE 148 3 v ss.length (ss.flatMap sqC)]
structure Nt where
  ins:Int
  sv:Value
  av:Value
  ov:Value
  ss:List Sq
  gs:List An
  os:List Int
abbrev Nt.agg (n:Nt):Value:=.agg #[.int .i64 n.ins,n.sv,n.av,n.ov]
abbrev ntE (n:Nt):HP:=bigE [sqsE n.sv n.ss,rowE 145 2 n.av n.gs.length (n.gs.flatMap anC),rowE 3 1 n.ov n.os.length (n.os.map (Value.int .i64))]
structure RdsNt (w:World) (n:Nt):Prop where
  sq:RdsW w n.sv 3 n.ss.length (n.ss.flatMap sqC)
  xs:∀s∈n.ss,RdsW w s.iv 1 s.xs.length (s.xs.map (Value.int .i64))
  an:RdsW w n.av 2 n.gs.length (n.gs.flatMap anC)
  ou:RdsW w n.ov 1 n.os.length (n.os.map (Value.int .i64))
theorem RdsNt.below {w B:World}{n:Nt}(h:RdsNt w n) (e:Below w.heap.size w B):RdsNt B n:=⟨h.sq.below e,fun s D=>(h.xs s D).below e,h.an.below e,h.ou.below e⟩
theorem RdsNt.at {w:World}{n:Nt}(h:RdsNt w n) {k:Nat}(e:k<n.ss.length):RdsW w (n.ss.getD k sq0).iv 1 (n.ss.getD k sq0).xs.length ((n.ss.getD k sq0).xs.map (Value.int .i64)):=h.xs _ (dJ e)
theorem nt_rds {w0:World}{l:List HP}{n:Nt}(i:Nat) (B:l[i]? = some (ntE n)) (w:World) (D:Mem w0 l w):RdsNt w n:=by
  obtain⟨e, -⟩:=D.holds _ (cT B)
  have E:=(e _ (mem_cons_self)).2
  have G:=(e _ (mem_cons_of_mem _ mem_cons_self)).2
  have J:=(e _ (mem_cons_of_mem _ (mem_cons_of_mem _ mem_cons_self))).2
  obtain⟨h, -⟩:=E
  have K:=(h _ (mem_cons_self)).2
  have M:=(h _ (mem_cons_of_mem _ mem_cons_self)).2
  exact⟨cI M,fun s U=>cI (K.1 (sqPart s) (List.mem_map.2 ⟨s,U,rfl⟩)).2,cI G,cI J⟩
def Nt.fst (n:Nt):Int:=1+n.ins+n.ss.length
def Nt.cnt (n:Nt):Int:=1+n.ins+n.ss.length+n.gs.length
def LtOk (x m:Int):Prop:=0≤x∧x<2*m
structure SqOk (s:Sq):Prop where
  kind:(s.kd=0∧(0≤s.it∧s.it≤1)∧s.xs.length=1)∨(s.kd=1∧(0≤s.it∧s.it≤31)∧s.xs.length=4)
structure NtOk (n:Nt):Prop where
  i0:0≤n.ins
  i1:n.ins≤20
  s1:n.ss.length≤12
  a1:n.gs.length≤300
  o1:n.os.length≤16
  sq:∀s∈n.ss,SqOk s
  xs:∀s∈n.ss,∀x∈s.xs,LtOk x n.cnt
  an:∀k,k<n.gs.length→LtOk (n.gs.getD k an0).a (n.fst+k)∧LtOk (n.gs.getD k an0).b (n.fst+k)
  ou:∀x∈n.os,LtOk x n.cnt
theorem SqOk.len {s:Sq}(h:SqOk s):s.xs.length≤4:=by rcases h.kind with⟨_,_,h⟩|⟨_,_,h⟩<;>omega
def rtsL (n:Nt) (k:Nat):List Int:=n.os++(n.ss.take k).flatMap Sq.xs
theorem hY {α:Type}{l:List α}{k:Nat}(d:α) (h:k<l.length):l.take (k+1)=l.take k++[l.getD k d]:=by
  rw[List.take_succ_eq_append_getElem h,getD_eq_getElem?_getD,List.getElem?_eq_getElem h];rfl
theorem zU (n:Nt) {k:Nat}(h:k<n.ss.length):rtsL n k++(n.ss.getD k sq0).xs=rtsL n (k+1):=by
  unfold rtsL;rw[hY sq0 h,List.flatMap_append,List.append_assoc];simp
theorem oK {n:Nt}(h:NtOk n):∀k,k≤n.ss.length→(rtsL n k).length≤16+4*k
  | 0,_=>by have:=h.o1;simp[rtsL];omega
  | k+1,hk=>by
    rw[←zU n O,length_append]
    have:=oK h k O
    have:=(h.sq _ (dJ (d:=sq0) (show k<n.ss.length by omega))).len
    omega
theorem Cg {n:Nt}(h:NtOk n) {i:Nat}(B:i<(rtsL n n.ss.length).length):LtOk ((rtsL n n.ss.length).getD i 0) n.cnt:=by
  have e:=dJ (d:=(0:Int)) B
  generalize (rtsL n n.ss.length).getD i 0=x at *
  unfold rtsL at e
  rw[take_length,List.mem_append,List.mem_flatMap] at e
  rcases e with e|⟨s,hs,hx⟩
  · exact h.ou x e
  · exact h.xs s hs x hx
def bitL (v:List Int) (l:Int):Int:=if l % 2=0 then v.getD (l / 2).toNat 0 else 1-v.getD (l / 2).toNat 0
def B01 (v:List Int):Prop:=∀k,k<v.length→v.getD k 0=0∨v.getD k 0=1
theorem vS {v:List Int}(h:B01 v) {l:Int}(e:0≤l) (B:l<2*v.length):bitL v l=0∨bitL v l=1:=by
  unfold bitL
  have:=h (l / 2).toNat O
  split<;>omega
def leafL (n:Nt) (st:List Int) (inp:Int):List Int:=[0]++(List.range n.ins.toNat).map (fun k=>inp / 2 ^ k % 2)++st.map (· % 2)
def valL (n:Nt) (st:List Int) (inp:Int) (k:Nat):List Int:=(n.gs.take k).foldl (fun v a=>v++[bitL v a.a*bitL v a.b]) (leafL n st inp)
abbrev valsL (n:Nt) (st:List Int) (inp:Int):List Int:=valL n st inp n.gs.length
theorem Hw (n:Nt) (h:List Int) (e:Int):(leafL n h e).length=1+n.ins.toNat+h.length:=by simp[leafL];omega
theorem tP (n:Nt) (B:List Int) (e:Int) {k:Nat}(h:k<n.gs.length):valL n B e (k+1)=valL n B e k++[bitL (valL n B e k) (n.gs.getD k an0).a*bitL (valL n B e k) (n.gs.getD k an0).b]:=by
  unfold valL;rw[hY an0 h,List.foldl_append];rfl
theorem oC (n:Nt) (B:List Int) (e:Int):∀k,k≤n.gs.length→(valL n B e k).length=1+n.ins.toNat+B.length+k
  | 0,_=>by simp[valL,Hw]
  | k+1,h=>by rw[tP n B e O,length_append,oC n B e k O];simp;omega
theorem Lf {v:List Int}{x:Int}(h:B01 v) (B:x=0∨x=1):B01 (v++[x]):=fun k D=>by
  rw[length_append,length_singleton] at D
  by_cases e:k<v.length
  · rw[gM e];exact h k e
  · rw[hC O,show k-v.length=0 by omega];exact B
theorem leaf01 (n:Nt) (D:List Int) (e:Int):B01 (leafL n D e):=fun k E=>by
  have h:∀x∈leafL n D e,x=0∨x=1:=by
    intro x B
    unfold leafL at B
    simp only[List.mem_append,mem_singleton,List.mem_map] at B
    rcases B with(rfl|⟨q,_,rfl⟩)|⟨q,_,rfl⟩<;>omega
  exact h _ (dJ E)
theorem Lg {n:Nt}(h:NtOk n) {D:List Int}(G:D.length=n.ss.length) (B:Int):∀k,k≤n.gs.length→B01 (valL n D B k)
  | 0,_=>by show B01 (leafL n D B);exact leaf01 n D B
  | k+1,hk=>by
    rw[tP n D B O]
    have ih:=Lg h G B k O
    have J:=oC n D B k O
    have E:=h.an k O
    have K:=h.i0
    unfold LtOk Nt.fst at E
    refine Lf ih ?_
    rcases vS ih E.1.1 O with e|e<;>rcases vS ih E.2.1 O with e'|e'<;>rw[e,e']<;>decide
theorem Do (n:Nt) (st:List Int) (inp:Int):∀(m k:Nat),k≤m→m≤n.gs.length→∀i,i<(valL n st inp k).length→(valL n st inp m).getD i 0=(valL n st inp k).getD i 0
  | 0,k,h,_,i,hi=>by rw[show k=0 by omega]
  | m+1,k,h,hm,i,hi=>by
    by_cases hk:k=m+1
    · rw[hk]
    · have hl := oC n st inp k (by omega)
      have hl2:=oC n st inp m (by omega)
      rw[tP n st inp (by omega),gM (by omega)]
      exact Do n st inp m k (by omega) (by omega) i hi
theorem val0 {n:Nt}(h:List Int) (e:Int):(valsL n h e).getD 0 0=0:=by
  rw[Do n h e n.gs.length 0 O (Nat.le_refl _) 0 (by rw[oC n h e 0 O];omega)];rfl
abbrev nB9 (b:Nat) (n:Nt):HP:=boxE b #[.int .i64 n.ins,n.sv,n.av,n.ov] 125
abbrev eB9 (b:Nat):HP:=boxE b #[.int .i64 0,.slice none 0 0,.slice none 0 0,.slice none 0 0] 125
abbrev gV9 (vs:List Value) (i:Nat):Value:=List.getD vs i undef
abbrev rI9 (e:Nat) (v:Value) (l:List Int):HP:=rowE e 1 v l.length (l.map (Value.int .i64))
abbrev rS9 {α:Type}(e s:Nat) (v:Value) (l:List α) (f:α→List Value):HP:=rowE e s v l.length (l.flatMap f)
abbrev jI (x:Int):Value:=.int .i64 x
abbrev mI (l:List Int):List Value:=l.map (Value.int .i64)
abbrev pI (b:Nat):Value:=.pointer (some ⟨b,0,none⟩)
theorem eG {α:Type}{a:α}{l:List α}:a∈a::l:=mem_cons_self
theorem fW {α:Type}{a b:α}{l:List α}(h:a∈l):a∈b::l:=mem_cons_of_mem _ h
theorem pR {α:Type}{l L:List α}(n:Nat) (h:L.drop n=l):l.Sublist L:=h▸List.drop_sublist n L
theorem Fj {w0 w:World}{l:List HP}{e h n:Nat}{v:Value}{xs:List Value}(B:Mem w0 l w) (i:Nat) (D:l[i]? = some (rowE e h v n xs)):RdsW w v h n xs:=aB i D w B
section
variable {P:Program}{N:Nat}{w0:World}{l:List HP}{env:List (Nat×Value)}{Q:Post}{o:Oper}{ops:Array Oper}{rest:List Oper}{d b off:Nat}
def ldF (P:Program) (ops:Array Oper) (N:Nat) (env:List (Nat×Value)) (o:Oper):Option (Nat×Nat×Nat×Option Nat):=match o.op with
  | .load t x=>match hdr ops N env o with
    | some d=>match ev env x with
      | some (.pointer (some ⟨b,off,none⟩))=>match aggB P t with
        | some false=>some (d,b,off,none)
        | some true=>match P.info? t with
          | some i=>some (d,b,off,some i.size)
          | none=>none
        | none=>none
      | _=>none
    | none=>none
  | _=>none
def LdG (P:Program) (N:Nat) (ops:Array Oper) (w0:World) (l:List HP) (env:List (Nat×Value)) (rest:List Oper) (Q:Post) (d b off:Nat):Option Nat→Prop
  | none=>∃v,(∀w,Mem w0 l w→w.cell? ⟨b,off,none⟩=some v)∧HL P N ops w0 l ((d,v)::env) rest Q
  | some s=>∃cs:List Value,cs.length=s∧(∀w,Mem w0 l w→∀j u,cs[j]? = some u→w.cell? ⟨b,off+j,none⟩=some u)∧HL P N ops w0 l ((d,.agg cs.toArray)::env) rest Q
theorem Lj {n:Option Nat}(h:ldF P ops N env o=some (d,b,off,n)) (k:LdG P N ops w0 l env rest Q d b off n):HL P N ops w0 l env (o::rest) Q:=by
  unfold ldF at h
  split at h
  · rename_i t x ho
    split at h
    · rename_i d' hd
      split at h
      · rename_i b' off' hx
        split at h
        · rename_i ha
          cases h
          obtain⟨v,hc,k⟩:=k
          exact aN hd (bJ ho ha hx hc) k
        · rename_i ha
          split at h
          · rename_i i hi
            cases h
            obtain⟨cs,hl,hc,k⟩:=k
            exact aN hd (aP ho ha (by rw[hi];rfl) hx hl hc) k
          · cases h
        · cases h
      · cases h
    · cases h
  · cases h
theorem qP {cs:Array Value}{t:TypeId}{v:Value}(i:Nat) (e:l[i]? = some (boxE b cs t)) (h:cs[off]? = some v) (k:HL P N ops w0 l ((d,v)::env) rest Q):LdG P N ops w0 l env rest Q d b off none:=⟨v,bA i e h,k⟩
theorem qO {cs:Array Value}{t:TypeId}{s:Nat}(i:Nat) (e:l[i]? = some (boxE b cs t)) (h:cs.size=s) (k:HL P N ops w0 l ((d,.agg cs)::env) rest Q):LdG P N ops w0 l env rest Q d b 0 (some s):=
  ⟨cs.toList,by rw[Array.length_toList];exact h,aM i e 0 (by rw[drop_zero,take_length]),by rw[Array.toArray_toList];exact k⟩
def lenF (P:Program) (ops:Array Oper) (N:Nat) (env:List (Nat×Value)) (o:Oper):Option (Nat×Value):=match o.op with
  | .call { callee:=.builtin .len,args:=xs,argTypes:=ts }=>match xs.toList,ts.toList with
    | [x],[t]=>match hdr ops N env o with
      | some d=>match ev env x with
        | some v=>bif isSl P t then some (d,v) else none
        | none=>none
      | none=>none
    | _,_=>none
  | _=>none
def LnG (P:Program) (N:Nat) (ops:Array Oper) (w0:World) (l:List HP) (env:List (Nat×Value)) (rest:List Oper) (Q:Post) (d:Nat) (v:Value):Prop:=∃s n cs,Rd w0 l v s n cs∧HL P N ops w0 l ((d,.int .i64 (n:Int))::env) rest Q
theorem Li {v:Value}(h:lenF P ops N env o=some (d,v)) (k:LnG P N ops w0 l env rest Q d v):HL P N ops w0 l env (o::rest) Q:=by
  unfold lenF at h
  split at h
  · rename_i xs ts ho
    split at h
    · rename_i x t e1 e2
      have e3:xs=#[x]:=Array.toList_inj.1 e1
      have e4:ts=#[t]:=Array.toList_inj.1 e2
      subst e3 e4
      split at h
      · rename_i d' hd
        split at h
        · rename_i v' hx
          cases hs:isSl P t with
          | false=>rw[hs] at h;cases h
          | true=>
            rw[hs] at h;cases h
            obtain⟨s,n,cs,hr,k⟩:=k
            exact aN hd (eV ho hs hx hr) k
        · cases h
      · cases h
    · cases h
  · cases h
theorem tA {e s n:Nat}{v:Value}{xs:List Value}(i:Nat) (h:l[i]? = some (rowE e s v n xs)) (k:HL P N ops w0 l ((d,.int .i64 (n:Int))::env) rest Q):LnG P N ops w0 l env rest Q d v:=⟨s,n,xs,aB i h,k⟩
theorem ln_o {s n:Nat}{v:Value}{xs:List Value}(h:RdsW w0 v s n xs) (k:HL P N ops w0 l ((d,.int .i64 (n:Int))::env) rest Q):LnG P N ops w0 l env rest Q d v:=⟨s,n,xs,aE h,k⟩
end
theorem aX {e env:List (Nat×Value)}{u v:Value}(k:Nat) (h:u=v) (B:sub e env) (D:lk env k=some u:=by exact rfl):sub ((k,v)::e) env:=sk k (D.trans (congrArg some h)) B
theorem dU {α:Sort _}(a:α):∃x,a=x:=⟨a,rfl⟩
section
variable {P:Program}{N:Nat}{w0:World}{l:List HP}{env:List (Nat×Value)}{o:Oper}{ops:Array Oper}{b off:Nat}
def lvF (P:Program) (env:List (Nat×Value)) (o:Oper):Option (Nat×Nat×Option Nat):=match o.op with
  | .load t x=>match ev env x with
    | some (.pointer (some ⟨b,off,none⟩))=>match aggB P t with
      | some false=>some (b,off,none)
      | some true=>match P.info? t with
        | some i=>some (b,off,some i.size)
        | none=>none
      | none=>none
    | _=>none
  | _=>none
def LvG (w0:World) (l:List HP) (v:Value) (b off:Nat):Option Nat→Prop
  | none=>∀w,Mem w0 l w→w.cell? ⟨b,off,none⟩=some v
  | some s=>∃cs:List Value,cs.length=s∧(∀w,Mem w0 l w→∀j u,cs[j]? = some u→w.cell? ⟨b,off+j,none⟩=some u)∧.agg cs.toArray=v
theorem lv_in {n:Option Nat}{v:Value}(h:lvF P env o=some (b,off,n)) (k:LvG w0 l v b off n):RunV P N w0 l env o v:=by
  unfold lvF at h
  split at h
  · rename_i t x ho
    split at h
    · rename_i b' off' hx
      split at h
      · rename_i ha
        cases h
        exact bJ ho ha hx k
      · rename_i ha
        split at h
        · rename_i i hi
          cases h
          obtain⟨cs,hl,hc,rfl⟩:=k
          exact aP ho ha (by rw[hi];rfl) hx hl hc
        · cases h
      · cases h
    · cases h
  · cases h
theorem Ct {cs:Array Value}{t:TypeId}{v:Value}(i:Nat) (e:l[i]? = some (boxE b cs t)) (h:cs[off]? = some v):LvG w0 l v b off none:=bA i e h
theorem Cs {cs:Array Value}{t:TypeId}{s:Nat}{v:Value}(i:Nat) (e:l[i]? = some (boxE b cs t)) (h:cs.size=s) (B:.agg cs=v):LvG w0 l v b 0 (some s):=
  ⟨cs.toList,by rw[Array.length_toList];exact h,aM i e 0 (by rw[drop_zero,take_length]),by rw[Array.toArray_toList];exact B⟩
def ixF (P:Program) (env:List (Nat×Value)) (o:Oper):Option (Value×Nat×Int):=match o.op with
  | .indexAddr t x i=>match ev env x,ev env i with
    | some v,some (.int _ m)=>match P.underlying t with
      | some (.slice e)=>match P.info? e with
        | some j=>some (v,j.size,m)
        | none=>none
      | _=>none
    | _,_=>none
  | _=>none
theorem wT {v u:Value}{s:Nat}{m:Int}(h:ixF P env o=some (v,s,m)) {n:Nat}{cs:List Value}(hr:Rd w0 l v s n cs) (e:elP v (m.toNat*s)=u) (h0:0≤m:=by omega) (h1:m<n:=by omega):RunV P N w0 l env o u:=by
  unfold ixF at h
  split at h
  · rename_i t x i ho
    split at h
    · rename_i v' kk m' hx hi
      split at h
      · rename_i e' he
        split at h
        · rename_i j hj
          cases h
          subst e
          exact kT ho he (by rw[hj];rfl) hx hi hr h0 h1
        · cases h
      · cases h
    · cases h
  · cases h
theorem aJ {v:Value}(h:ObV P ops N w0 l env o v:=by
  first
    | exact fL rfl (aU rfl) rfl
    | exact .inr ⟨rfl,rfl⟩
    | exact fL rfl (qE rfl rfl rfl) rfl
    | (refine fL rfl (lv_in rfl ?_) rfl;first|exact Ct 0 rfl rfl|exact Ct 1 rfl rfl|exact Ct 2 rfl rfl|exact Ct 3 rfl rfl|exact Ct 4 rfl rfl|exact Ct 5 rfl rfl|exact Ct 6 rfl rfl|exact Cs 0 rfl rfl rfl|exact Cs 1 rfl rfl rfl|exact Cs 2 rfl rfl rfl|exact Cs 3 rfl rfl rfl|exact Cs 4 rfl rfl rfl|exact Cs 5 rfl rfl rfl|exact Cs 6 rfl rfl rfl)
    | exact fL rfl (jA rfl rfl rfl rfl) rfl
    | exact .inl ⟨rfl,zV (jA rfl rfl rfl rfl) I⟩
    | exact fL rfl (eY rfl rfl rfl) rfl
    | exact fL rfl (nK rfl rfl rfl) rfl
    | exact fL rfl (wT rfl (aB 0 rfl) rfl) rfl
    | exact fL rfl (wT rfl (aB 1 rfl) rfl) rfl
    | exact fL rfl (wT rfl (aB 2 rfl) rfl) rfl
    | exact fL rfl (wT rfl (aB 3 rfl) rfl) rfl
    | exact fL rfl (wT rfl (aB 4 rfl) rfl) rfl
    | exact fL rfl (wT rfl (aE I) rfl) rfl
    | exact fL rfl (lP rfl rfl rfl (aB 0 rfl)) rfl
    | exact fL rfl (lP rfl rfl rfl (aB 1 rfl)) rfl
    | exact fL rfl (lP rfl rfl rfl (aB 2 rfl)) rfl
    | exact fL rfl (lP rfl rfl rfl (aB 3 rfl)) rfl
    | exact fL rfl (lP rfl rfl rfl (aB 4 rfl)) rfl
    | exact fL rfl (lP rfl rfl rfl (aE I)) rfl
    | exact fL rfl (lD rfl rfl rfl (aB 0 rfl)) rfl
    | exact fL rfl (lD rfl rfl rfl (aB 1 rfl)) rfl
    | exact fL rfl (lD rfl rfl rfl (aB 2 rfl)) rfl
    | exact fL rfl (lD rfl rfl rfl (aB 3 rfl)) rfl
    | exact fL rfl (lD rfl rfl rfl (aB 4 rfl)) rfl
    | exact fL rfl (lD rfl rfl rfl (aE I)) rfl):ObV P ops N w0 l env o v:=h
end
structure Hd9 (Q:Prop):Prop where
  out:Q
theorem go {P Q:Prop}(k:Q) (h:Hd9 Q→P:=by
  intro q
  repeat (first
    | with_reducible refine cP ?_
    | with_reducible refine aG ?_
    | with_reducible refine bP ?_
    | with_reducible refine bB ?_
    | with_reducible refine bS ?_
    | with_reducible refine gP ?_
    | with_reducible refine cG ?_
    | with_reducible refine bW ?_
    | with_reducible refine cW ?_
    | with_reducible refine dB ?_
    | with_reducible refine cK ?_
    | with_reducible refine dE ?_
    | with_reducible refine aO ?_
    | refine aS 1 rfl ?_
    | refine aN rfl (qE rfl rfl rfl) ?_
    | (refine Lj rfl ?_;first|refine qP 0 rfl rfl ?_|refine qP 1 rfl rfl ?_|refine qP 2 rfl rfl ?_|refine qP 3 rfl rfl ?_|refine qP 4 rfl rfl ?_|refine qP 5 rfl rfl ?_|refine qP 6 rfl rfl ?_|refine qO 0 rfl rfl ?_|refine qO 1 rfl rfl ?_|refine qO 2 rfl rfl ?_|refine qO 3 rfl rfl ?_|refine qO 4 rfl rfl ?_|refine qO 5 rfl rfl ?_|refine qO 6 rfl rfl ?_)
    | (refine Li rfl ?_;first|refine tA 0 rfl ?_|refine tA 1 rfl ?_|refine tA 2 rfl ?_|refine tA 3 rfl ?_|refine tA 4 rfl ?_|refine tA 5 rfl ?_|refine ln_o I ?_)
    | refine aN rfl (eY rfl rfl rfl) ?_
    | refine aN rfl (nK rfl rfl rfl) ?_
    | refine aR rfl ?_
    | refine aV rfl ?_
    | refine hZ rfl ?_)
  exact q.out):P:=h ⟨k⟩
structure Nr9 (e s:Nat) (Q:Prop):Prop where
  out:Q
theorem nR_l {P:Program}{N:Nat}{w0:World}{l:List HP}{env:List (Nat×Value)}{Q:Post}{ops:Array Oper}{rest:List Oper}{e s:Nat}{K:Prop}(q:Nr9 e s K) (k:HL P N ops w0 (rowE e s (.slice none 0 0) 0 []::l) env rest Q):HL P N ops w0 l env rest Q:=rW e s k
theorem nR_c {P:Program}{N:Nat}{w0:World}{l:List HP}{env:List (Nat×Value)}{Q:Post}{c:Code}{e s:Nat}{K:Prop}(q:Nr9 e s K) (k:HC P N w0 (rowE e s (.slice none 0 0) 0 []::l) env c Q):HC P N w0 l env c Q:=fK _ (fun w h=>h.nilRow e s) k
theorem nR_q {N:Nat}{w0:World}{l:List HP}{env:List (Nat×Value)}{Q:Post}{x:Exit}{e s:Nat}{K:Prop}(q:Nr9 e s K) (k:HQ N w0 (rowE e s (.slice none 0 0) 0 []::l) env x Q):HQ N w0 l env x Q:=fH _ (fun w h=>h.nilRow e s) k
theorem nR {P Q:Prop}(e s:Nat) (k:Q) (h:Nr9 e s Q→P:=by
  intro q
  first|refine nR_l q ?_|refine nR_c q ?_|refine nR_q q ?_
  repeat (first
    | with_reducible refine cP ?_
    | with_reducible refine aG ?_
    | with_reducible refine bP ?_
    | with_reducible refine bB ?_
    | with_reducible refine bS ?_
    | with_reducible refine gP ?_
    | with_reducible refine cG ?_
    | with_reducible refine bW ?_
    | with_reducible refine cW ?_
    | with_reducible refine dB ?_
    | with_reducible refine cK ?_
    | with_reducible refine dE ?_
    | with_reducible refine aO ?_
    | refine aS 1 rfl ?_
    | refine aN rfl (qE rfl rfl rfl) ?_
    | (refine Lj rfl ?_;first|refine qP 0 rfl rfl ?_|refine qP 1 rfl rfl ?_|refine qP 2 rfl rfl ?_|refine qP 3 rfl rfl ?_|refine qP 4 rfl rfl ?_|refine qP 5 rfl rfl ?_|refine qP 6 rfl rfl ?_|refine qO 0 rfl rfl ?_|refine qO 1 rfl rfl ?_|refine qO 2 rfl rfl ?_|refine qO 3 rfl rfl ?_|refine qO 4 rfl rfl ?_|refine qO 5 rfl rfl ?_|refine qO 6 rfl rfl ?_)
    | (refine Li rfl ?_;first|refine tA 0 rfl ?_|refine tA 1 rfl ?_|refine tA 2 rfl ?_|refine tA 3 rfl ?_|refine tA 4 rfl ?_|refine tA 5 rfl ?_|refine ln_o I ?_)
    | refine aN rfl (eY rfl rfl rfl) ?_
    | refine aN rfl (nK rfl rfl rfl) ?_
    | refine aR rfl ?_
    | refine aV rfl ?_
    | refine hZ rfl ?_)
  exact q.out):P:=h ⟨k⟩
open Go.RowKit
noncomputable def pB (p:Prop):Bool:=@decide p (Classical.propDecidable p)
theorem gJ {p:Prop}(h:p):pB p=true:=@decide_eq_true p (Classical.propDecidable p) h
theorem fA {p:Prop}(h:¬p):pB p=false:=@decide_eq_false p (Classical.propDecidable p) h
theorem nH {p:Prop}(h:pB p=true):p:=@of_decide_eq_true p (Classical.propDecidable p) h
theorem lB {p:Prop}(h:pB p=false):¬p:=@of_decide_eq_false p (Classical.propDecidable p) h
structure Lt where
  iv:Value
  xs:List Int
  ma:Int
abbrev lt0:Lt:=⟨.slice none 0 0,[],0⟩
def ltC (r:Lt):List Value:=[r.iv,.int .i64 r.ma]
def Lt.val (r:Lt):List Int×Int:=(r.xs,r.ma)
def Sq.val (s:Sq):Int×Int×List Int:=(s.kd,s.it,s.xs)
structure RdsX {α:Type}(f:α→List Value) (s:Nat) (iv:α→Value) (xs:α→List Int) (w:World) (v:Value) (rs:List α):Prop where
  row:RdsW w v s rs.length (rs.flatMap f)
  xs:∀r∈rs,RdsW w (iv r) 1 (xs r).length ((xs r).map (Value.int .i64))
abbrev RdsSq:=RdsX sqC 3 Sq.iv Sq.xs
abbrev RdsLt:=RdsX ltC 2 Lt.iv Lt.xs
section
variable {α:Type}{f:α→List Value}{s:Nat}{iv:α→Value}{xs:α→List Int}
theorem RdsX.below {w e:World}{v:Value}{rs:List α}(h:RdsX f s iv xs w v rs) (B:Below w.heap.size w e):RdsX f s iv xs e v rs:=⟨h.row.below B,fun r D=>(h.xs r D).below B⟩
theorem RdsX.at {w:World}{v:Value}{rs:List α}{d:α}(h:RdsX f s iv xs w v rs) {k:Nat}(e:k<rs.length):RdsW w (iv (rs.getD k d)) 1 (xs (rs.getD k d)).length ((xs (rs.getD k d)).map (Value.int .i64)):=h.xs _ (dJ e)
theorem RdsX.small {w:World}{v:Value}{rs:List α}(h:RdsX f s iv xs w v rs):rs.length≤9223372036854775807:=by obtain⟨_,_,_,_,h,_⟩:=h.row;exact h.1
end
theorem vV {w:World}{v:Value}{s n:Nat}{cs:List Value}(h:RdsW w v s n cs):n≤9223372036854775807:=by obtain⟨_,_,_,_,h,_⟩:=h;exact h.1
structure Ln where
  ins:Int
  sv:Value
  lv:Value
  ov:Value
  ss:List Sq
  ls:List Lt
  os:List Int
structure RdsLn (w:World) (n:Ln):Prop where
  sq:RdsSq w n.sv n.ss
  lt:RdsLt w n.lv n.ls
  ou:RdsW w n.ov 1 n.os.length (n.os.map (Value.int .i64))
theorem RdsLn.below {w B:World}{n:Ln}(h:RdsLn w n) (e:Below w.heap.size w B):RdsLn B n:=⟨h.sq.below e,h.lt.below e,h.ou.below e⟩
abbrev Ln.agg (n:Ln):Value:=.agg #[.int .i64 n.ins,n.sv,n.lv,n.ov]
theorem Kn {w:World}{ps:List HP}{p:HP}(h:(bigE ps).holds w) {j:Nat}(e:ps[j]? = some p):p.holds w:=(h.1 p (cT e)).2
open Go.RowKit
structure Arc where
  f:Int
  t:Int
  d:Int
abbrev arc0:Arc:=⟨0,0,0⟩
def arcC (a:Arc):List Value:=[.int .i64 a.f,.int .i64 a.t,.int .i64 a.d]
def ArcOk (n:Int) (a:Arc):Prop:=(0≤a.f∧a.f<a.t)∧a.t<n∧0≤a.d∧a.d≤100
structure GOk (n:Int) (gs:List Arc):Prop where
  n0:1≤n
  n1:n≤500
  len:gs.length≤2000
  ok:∀a∈gs,ArcOk n a
structure ARow where
  v:Value
  ar:List Arc
abbrev row0:ARow:=⟨.slice none 0 0,[]⟩
def rowC (r:ARow):List Value:=[r.v]
structure RdsInto (w:World) (v:Value) (rs:List ARow):Prop where
  row:RdsW w v 1 rs.length (rs.flatMap rowC)
  ar:∀r∈rs,RdsW w r.v 3 r.ar.length (r.ar.flatMap arcC)
open Go.RowKit
open Go.RowKit
def pT (n:Int):Nat:=2 ^ n.toNat
def qT (n:Int):Int:=2 ^ (2 ^ n.toNat)
theorem En {n:Int}(h:0≤n∧n≤4):n=0∨n=1∨n=2∨n=3∨n=4:=O
theorem pT_rng {n:Int}(h:0≤n∧n≤4):1≤pT n∧pT n≤16:=by
  rcases En h with rfl|rfl|rfl|rfl|rfl<;>decide
theorem qT_rng {n:Int}(h:0≤n∧n≤4):2≤qT n∧qT n≤65536:=by
  rcases En h with rfl|rfl|rfl|rfl|rfl<;>decide
theorem wruT {n:Int}(h:0≤n∧n≤4):IntKind.u64.wrap (1*2 ^ n.toNat)=(pT n:Int):=by
  rcases En h with rfl|rfl|rfl|rfl|rfl<;>exact IntWalk.u64_in _ V
theorem wrqT {n:Int}(h:0≤n∧n≤4):IntKind.i64.wrap (1*2 ^ ((pT n:Int)).toNat)=qT n:=by
  rcases En h with rfl|rfl|rfl|rfl|rfl<;>exact IntWalk.i64_in _ V
def TabP (n b:Int):Prop:=(0≤n∧n≤4)∧0≤b∧b≤qT n-1
def BelowP (xs:List Int) (m:Int):Prop:=∀j,j<xs.length→0≤xs.getD j 0∧xs.getD j 0<m
def Ln.fst (n:Ln):Int:=1+n.ins+n.ss.length
def Ln.cnt (n:Ln):Int:=1+n.ins+n.ss.length+n.ls.length
structure LnSz (n:Ln):Prop where
  i:0≤n.ins∧n.ins≤20
  s:n.ss.length≤12
  l:n.ls.length≤400
  o:n.os.length≤16
noncomputable def lnN (n:Ln):Int:=if pB (LnSz n)=true then n.cnt else 0
theorem tI {n:Ln}(h:LnSz n):lnN n=n.cnt:=by unfold lnN;rw[if_pos (gJ h)]
theorem uO {n:Ln}(h:¬LnSz n):lnN n=0:=by unfold lnN;rw[fA h];rfl
theorem lnN_sz {n:Ln}(h:lnN n≠0):LnSz n:=Classical.byContradiction fun e=>h (uO e)
theorem hQ {n:Ln}(h:LnSz n):lnN n≠0:=by
  rw[tI h];have:=h.i;show 1+n.ins+(n.ss.length:Int)+n.ls.length≠0;omega
def LutP (f:Int) (l:Lt):Prop:=(l.xs.length≤4∧BelowP l.xs f)∧TabP l.xs.length l.ma
structure LnOk (n:Ln):Prop where
  sz:LnSz n
  ou:BelowP n.os n.cnt
  sq:∀k,k<n.ss.length→SqOk (n.ss.getD k sq0)∧BelowP (n.ss.getD k sq0).xs n.cnt
  lt:∀i,i<n.ls.length→LutP (n.fst+i) (n.ls.getD i lt0)
theorem jW {a b c:Int}(h:inR a b c=false):¬(b≤a∧a≤c):=fun e=>by rw[(dA _ _ _).2 e] at h;cases h
theorem hI (x lo e:Int) (w:World)  :
   Calls Tryz.prog 58 #[.int .i64 x,.int .i64 lo,.int .i64 e] w (Ans w (.bool (inR x lo e))):=by
 refine aY (N:=15) (args:=[jI x,jI lo,jI e]) Tryz.func58 A A (cF 1 A (aG (cN 2 A ?_)))
 refine eK A A A A A A (fun B=>go ?_) (fun B=>go ?_)
 refine iA A A A A A A (fun D=>go ?_) (fun D=>go ?_)
 exact aT A A (congrArg _ (((dA _ _ _).2 O).symm))
 exact aT A A (congrArg _ ((Bool.eq_false_iff.2 (fun h=>by have:=(dA _ _ _).1 h;omega)).symm))
 exact aT A A (congrArg _ ((Bool.eq_false_iff.2 (fun h=>by have:=(dA _ _ _).1 h;omega)).symm))
theorem iI (n:Ln) (w:World) (e:RdsLn w n) (h:LnSz n) :
   Calls Tryz.prog 151 #[.agg #[.int .i64 n.ins,n.sv,n.lv,n.ov]] w (Ans w (.int .i64 n.fst)):=by
 have E:=vV e.ou
 have G:=e.sq.small
 have J:=e.lt.small
 have B:n.cnt=1+n.ins+n.ss.length+n.ls.length:=rfl
 have D:n.fst=1+n.ins+n.ss.length:=rfl
 obtain⟨K,M,U,X⟩:=h
 refine aY (N:=10) (args:=[.agg #[jI n.ins,n.sv,n.lv,n.ov]]) Tryz.func151 A A (dW ?_)
 refine cU A (cE A A) fun Y=>go ?_
 refine aN A (eV A A A (aE ((e).sq.row))) (go ?_)
 exact aT A A A
theorem mK (n:Ln) (w:World) (e:RdsLn w n) :
   Calls Tryz.prog 149 #[.agg #[.int .i64 n.ins,n.sv,n.lv,n.ov]] w (Ans w (.int .i64 (lnN n))):=by
 have X:=vV e.ou
 have Y:=e.sq.small
 have Z:=e.lt.small
 have M:n.cnt=1+n.ins+n.ss.length+n.ls.length:=rfl
 have U:n.fst=1+n.ins+n.ss.length:=rfl
 refine aY (N:=36) (args:=[.agg #[jI n.ins,n.sv,n.lv,n.ov]]) Tryz.func149 A A (dW ?_)
 refine cU A (cE A A) fun b1=>go ?_
 refine cM A (aF A A (fun w hm=>aI (hI n.ins 0 20 w))) (bD (fun B=>go ?_) (fun B=>go ?_))
 obtain⟨D,a0⟩:=(dA _ _ _).1 B
 refine aN A (eV A A A (aE ((e).sq.row))) ?_
 refine fJ A A A A A A (fun h3=>go ?_) (fun h3=>go ?_)
 exact aT A A (congrArg _ (uO (fun h=>by obtain⟨E,G,J,K⟩:=h;omega)).symm)
 refine aN A (eV A A A (aE ((e).lt.row))) ?_
 refine fJ A A A A A A (fun h4=>go ?_) (fun h4=>go ?_)
 exact aT A A (congrArg _ (uO (fun h=>by obtain⟨E,G,J,K⟩:=h;omega)).symm)
 refine aN A (eV A A A (aE ((e).ou))) ?_
 refine fJ A A A A A A (fun h5=>go ?_) (fun h5=>go ?_)
 exact aT A A (congrArg _ (uO (fun h=>by obtain⟨E,G,J,K⟩:=h;omega)).symm)
 refine aN A (eV A A A (aE ((e).sq.row))) (go ?_)
 refine aN A (eV A A A (aE ((e).lt.row))) (go ?_)
 exact aT rfl rfl (congrArg (Value.int .i64) (show n.cnt=lnN n from(tI ⟨O,O,O,O⟩).symm))
 have D:=jW B
 exact aT A A (congrArg _ (uO (fun h=>by obtain⟨E,G,J,K⟩:=h;omega)).symm)
theorem iW (xs:List Int) (m:Int) (v:Value) (w:World) (h:RdsW w v 1 xs.length (xs.map (Value.int .i64))) (J : -1000≤m∧m≤1000000) :
   Calls Tryz.prog 150 #[v,.int .i64 m] w (Ans w (.bool (pB (BelowP xs m)))):=by
 have K:=vV h
 refine aY (N:=25) (args:=[v,jI m]) Tryz.func150 A A (cF 1 A (aG (cF 1 A (go ?_))))
 refine lC (α:=Nat) [0,1,4] A (fun j=>[]) (fun j=>[(5,jI (j:Int))]) (fun j=>j≤xs.length∧∀i,i<j→0≤xs.getD i 0∧xs.getD i 0<m) (fun j=>xs.length-j) 0 ⟨Nat.zero_le _,fun i B=>absurd B O⟩ (bV A) (.slnil) fun j D=>go ?_
 obtain⟨Z,G⟩:=D
 refine aW A A A A A A (fun M=>go ?_) (fun M=>go ?_)
 refine aN A (cV 1 A A A A (aE h)) (aN A (lD A A A (aE h)) ?_)
 refine aW A A A A A A (fun U=>go ?_) (fun U=>go ?_)
 exact aT A A (congrArg _ (fA (fun E=>by first|(have X:=E j O;omega))).symm)
 refine aN A (cV 1 A A A A (aE h)) (aN A (lD A A A (aE h)) (go ?_))
 refine eK A A A A A A (fun Y=>go ?_) (fun Y=>go ?_)
 exact aT A A (congrArg _ (fA (fun E=>by first|(have X:=E j O;omega))).symm)
 exact dR (j+1) ⟨O,fun i B=>by by_cases e:i=j;(subst e;omega);exact G i O⟩ O (bV A) (.slnil)
 exact aT A A (congrArg _ (gJ (fun i B=>G i O)).symm)
theorem qW (n:Int) (w:World) (e:0≤n∧n≤4) :
   Calls Tryz.prog 146 #[.int .i64 n] w (Ans w (.int .i64 (qT n-1))):=by
 have h:=pT_rng e
 have B:=qT_rng e
 refine aY (N:=7) (args:=[jI n]) Tryz.func146 A A (aG (bP (aS 1 A (cP (bB (aG (bP (aS 1 A (aN A (oJ (k:=.u64) (kk:=.i64) (r:=(pT n:Int)) A A A A O (wruT e)) (aN A (oJ (k:=.i64) (kk:=.u64) (r:=qT n) A A A A O (wrqT O)) (aN A (nK A A A) (aS 1 A (go ?_)))))))))))))
 exact aT A A A
theorem oW (n b:Int) (w:World)  :
   Calls Tryz.prog 145 #[.agg #[.int .i64 n,.int .i64 b]] w (Ans w (.bool (pB (TabP n b)))):=by
 refine aY (N:=19) (args:=[.agg #[jI n,jI b]]) Tryz.func145 A A (dW ?_)
 refine cU A (cE A A) fun h=>go ?_
 rcases eq_false_or_eq_true (inR n 0 4) with e|e
 obtain⟨E,U⟩:=(dA _ _ _).1 e
 rcases eq_false_or_eq_true (decide (0≤b)) with B|B
 have G:0≤b:=of_decide_eq_true B
 rcases eq_false_or_eq_true (decide (b≤qT n-1)) with D|D
 have J:b≤qT n-1:=of_decide_eq_true D
 refine bL 16 [[],[0],[1],[2],[3],[3,4],[3,5],[3,6],[7],[8],[8,9],[8],[8,11],[8,12],[8,10,13],[8,14]] [3,4,5,6,7,8,9,10,11,12,13,14,15,16,17,18] [.pointer (some ⟨h,0+0,none⟩),jI n,.bool true,.bool true,.pointer (some ⟨h,0+1,none⟩),jI b,.bool true,.bool true,.bool true,.pointer (some ⟨h,0+1,none⟩),jI b,.pointer (some ⟨h,0+0,none⟩),jI n,jI (qT n-1),.bool true,.bool true] F A ?_ ?_
 exact⟨aJ,aJ,.inl ⟨A,iP (aF A A (fun w K=>aI (hI n 0 4 w))) e⟩,aJ,aJ,aJ,aJ,aJ,aJ,aJ,aJ,aJ,aJ,.inl ⟨A,aF A A (fun w K=>aI (qW n w O))⟩,aJ,aJ,trivial⟩
 simp only[drop_succ_cons,drop_zero]
 refine go ?_
 exact aT A A (congrArg _ (gJ ⟨O,O,O⟩).symm)
 have J:¬(b≤qT n-1):=of_decide_eq_false D
 refine bL 16 [[],[0],[1],[2],[3],[3,4],[3,5],[3,6],[7],[8],[8,9],[8],[8,11],[8,12],[8,10,13],[8,14]] [3,4,5,6,7,8,9,10,11,12,13,14,15,16,17,18] [.pointer (some ⟨h,0+0,none⟩),jI n,.bool true,.bool true,.pointer (some ⟨h,0+1,none⟩),jI b,.bool true,.bool true,.bool true,.pointer (some ⟨h,0+1,none⟩),jI b,.pointer (some ⟨h,0+0,none⟩),jI n,jI (qT n-1),.bool false,.bool false] F A ?_ ?_
 exact⟨aJ,aJ,.inl ⟨A,iP (aF A A (fun w K=>aI (hI n 0 4 w))) e⟩,aJ,aJ,aJ,aJ,aJ,aJ,aJ,aJ,aJ,aJ,.inl ⟨A,aF A A (fun w K=>aI (qW n w O))⟩,aJ,aJ,trivial⟩
 simp only[drop_succ_cons,drop_zero]
 refine go ?_
 exact aT A A (congrArg _ (fA (fun M=>by first|(obtain⟨X,Y,Z⟩:=M;omega))).symm)
 have G:¬(0≤b):=of_decide_eq_false B
 refine bL 16 [[],[0],[1],[2],[3],[3,4],[3,5],[3,6],[7],[8],[8],[8],[8],[8],[8],[8,14]] [3,4,5,6,7,8,9,10,11,12,13,14,15,16,17,18] [.pointer (some ⟨h,0+0,none⟩),jI n,.bool true,.bool true,.pointer (some ⟨h,0+1,none⟩),jI b,.bool false,.bool false,.bool false,undef,undef,undef,undef,undef,undef,.bool false] F A ?_ ?_
 exact⟨aJ,aJ,.inl ⟨A,iP (aF A A (fun w K=>aI (hI n 0 4 w))) e⟩,aJ,aJ,aJ,aJ,aJ,aJ,aJ,aJ,aJ,aJ,aJ,aJ,aJ,trivial⟩
 simp only[drop_succ_cons,drop_zero]
 refine go ?_
 exact aT A A (congrArg _ (fA (fun M=>by first|(obtain⟨X,Y,Z⟩:=M;omega))).symm)
 have E:=jW e
 refine bL 16 [[],[0],[1],[2],[3],[3],[3],[3,6],[7],[8],[8],[8],[8],[8],[8],[8,14]] [3,4,5,6,7,8,9,10,11,12,13,14,15,16,17,18] [.pointer (some ⟨h,0+0,none⟩),jI n,.bool false,.bool false,undef,undef,undef,.bool false,.bool false,undef,undef,undef,undef,undef,undef,.bool false] F A ?_ ?_
 exact⟨aJ,aJ,.inl ⟨A,iP (aF A A (fun w K=>aI (hI n 0 4 w))) e⟩,aJ,aJ,aJ,aJ,aJ,aJ,aJ,aJ,aJ,aJ,aJ,aJ,aJ,trivial⟩
 simp only[drop_succ_cons,drop_zero]
 refine go ?_
 exact aT A A (congrArg _ (fA (fun M=>by first|(obtain⟨X,Y,Z⟩:=M;omega))).symm)
theorem Je {x:Nat}{b:Int}(h:TabP (x:Int) b):x≤4:=by have:=h.1.2;omega
theorem kF (n:Ln) (w:World) (E:RdsLn w n) :
   Calls Tryz.prog 131 #[.agg #[.int .i64 n.ins,n.sv,n.lv,n.ov]] w (Ans w (.bool (pB (LnOk n)))):=by
 have b2:=vV E.ou
 have b3:=E.sq.small
 have b4:=E.lt.small
 have aw:n.cnt=1+n.ins+n.ss.length+n.ls.length:=rfl
 have ax:n.fst=1+n.ins+n.ss.length:=rfl
 refine aY (N:=99) (args:=[.agg #[jI n.ins,n.sv,n.lv,n.ov]]) Tryz.func131 A A (dW ?_)
 refine cU A (cE A A) fun b1=>go ?_
 refine cM A (aF A A (fun w G=>aI (mK n w (E.below G.bel)))) (go ?_)
 refine bZ A A A A A A (fun h2=>go ?_) (fun h2=>go ?_)
 exact aT A A (congrArg _ (fA (fun h=>by first|exact hQ h.sz ‹_› | exact absurd h.ou (by rw[←B];assumption)|exact absurd (h.sq k O).1 ‹_› | (have D:=h.sq k O;rw[←B] at D;exact absurd D.2 ‹_›)|(rcases(h.sq k O).1.kind with⟨a,b,c⟩|⟨a,b,c⟩<;>omega)|(have J:=(h.lt i O).1.1;omega)|exact absurd (h.lt i O).1.2 ‹_› | exact absurd (h.lt i O).2 ‹_›)).symm)
 have Y:=lnN_sz I
 have B:=tI Y
 obtain⟨si,s2,s3,s4⟩:=id Y
 refine cM A (aF A A (fun w G=>aI (iW n.os (lnN n) _ w ((aE ((E).ou)) w G) O))) (bD (fun h3=>go ?_) (fun h3=>go ?_))
 have aj:=nH h3
 refine lC (α:=Nat) [0,1,2,3,18] A (fun k=>[boxE b1 #[jI n.ins,n.sv,n.lv,n.ov] 108]) (fun k=>[(4,jI (k:Int))]) (fun k=>k≤n.ss.length∧∀i,i<k→SqOk (n.ss.getD i sq0)∧BelowP (n.ss.getD i sq0).xs n.cnt) (fun k=>n.ss.length-k) 0 ⟨Nat.zero_le _,fun i Z=>absurd Z O⟩ (bV A) (cZ A) fun k ak=>go ?_
 obtain⟨hk,M⟩:=ak
 refine aN A (eV A A A (aE ((E).sq.row))) ?_
 refine aW A A A A A A (fun h5=>go ?_) (fun h5=>go ?_)
 refine aN A (cV 3 A A A A (aE ((E).sq.row))) ?_
 refine aN A (cO (us:=[jI ((n.ss.getD k sq0).kd),jI ((n.ss.getD k sq0).it),(n.ss.getD k sq0).iv]) A A A A (aE ((E).sq.row)) O A (dQ sqC 3 (fun _=>A) n.ss sq0 (show k<_ by omega) A)) (cU A (bY (z:=.agg #[jI 0,jI 0,.slice none 0 0]) A A) fun b6=>?_)
 refine cA (cs':=#[jI ((n.ss.getD k sq0).kd),jI ((n.ss.getD k sq0).it),(n.ss.getD k sq0).iv]) (i:=0) (off:=0) (us:=[jI ((n.ss.getD k sq0).kd),jI ((n.ss.getD k sq0).it),(n.ss.getD k sq0).iv]) A A A A A A A (aC A (aC A (aC (E.sq.at (d:=sq0) (k:=k) O).one bH))) A A A (go ?_)
 refine bZ A A A A A A (fun h7=>go ?_) (fun h7=>go ?_)
 refine cM A (aF A A (fun w G=>aI (hI ((n.ss.getD k sq0).it) 0 1 w))) (bD (fun J=>go ?_) (fun J=>go ?_))
 obtain⟨al,b5⟩:=(dA _ _ _).1 J
 refine aN A (eV A A A (aE ((E).sq.at (d:=sq0) (k:=k) O))) ?_
 refine bZ A A A A A A (fun D=>go ?_) (fun D=>go ?_)
 refine cM A (aF A A (fun w G=>aI (iW ((n.ss.getD k sq0).xs) (lnN n) _ w ((aE ((E).sq.at (d:=sq0) (k:=k) O)) w G) O))) (bD (fun a0=>go ?_) (fun a0=>go ?_))
 have aa:=nH a0
 exact dR (k+1) ⟨O,fun i Z=>by by_cases e:i=k;(subst e;exact⟨by first|assumption|exact⟨O⟩,by rw[←B];assumption⟩);exact M i O⟩ O (bV rfl) (eA [1] rfl)
 have aa:=lB a0
 exact aT A A (congrArg _ (fA (fun h=>by first|exact hQ h.sz ‹_› | exact absurd h.ou (by rw[←B];assumption)|exact absurd (h.sq k O).1 ‹_› | (have D:=h.sq k O;rw[←B] at D;exact absurd D.2 ‹_›)|(rcases(h.sq k O).1.kind with⟨a,b,c⟩|⟨a,b,c⟩<;>omega)|(have J:=(h.lt i O).1.1;omega)|exact absurd (h.lt i O).1.2 ‹_› | exact absurd (h.lt i O).2 ‹_›)).symm)
 refine bZ A A A A A A (fun am=>go ?_) (fun am=>go ?_)
 refine cM A (aF A A (fun w G=>aI (hI ((n.ss.getD k sq0).it) 0 31 w))) (bD (fun a1=>go ?_) (fun a1=>go ?_))
 obtain⟨ab,ay⟩:=(dA _ _ _).1 a1
 refine aN A (eV A A A (aE ((E).sq.at (d:=sq0) (k:=k) O))) ?_
 refine bZ A A A A A A (fun an=>go ?_) (fun an=>go ?_)
 refine cM A (aF A A (fun w G=>aI (iW ((n.ss.getD k sq0).xs) (lnN n) _ w ((aE ((E).sq.at (d:=sq0) (k:=k) O)) w G) O))) (bD (fun a2=>go ?_) (fun a2=>go ?_))
 have ac:=nH a2
 exact dR (k+1) ⟨O,fun i Z=>by by_cases e:i=k;(subst e;exact⟨by first|assumption|exact⟨O⟩,by rw[←B];assumption⟩);exact M i O⟩ O (bV rfl) (eA [1] rfl)
 have ac:=lB a2
 exact aT A A (congrArg _ (fA (fun h=>by first|exact hQ h.sz ‹_› | exact absurd h.ou (by rw[←B];assumption)|exact absurd (h.sq k O).1 ‹_› | (have D:=h.sq k O;rw[←B] at D;exact absurd D.2 ‹_›)|(rcases(h.sq k O).1.kind with⟨a,b,c⟩|⟨a,b,c⟩<;>omega)|(have J:=(h.lt i O).1.1;omega)|exact absurd (h.lt i O).1.2 ‹_› | exact absurd (h.lt i O).2 ‹_›)).symm)
 exact aT A A (congrArg _ (fA (fun h=>by first|exact hQ h.sz ‹_› | exact absurd h.ou (by rw[←B];assumption)|exact absurd (h.sq k O).1 ‹_› | (have D:=h.sq k O;rw[←B] at D;exact absurd D.2 ‹_›)|(rcases(h.sq k O).1.kind with⟨a,b,c⟩|⟨a,b,c⟩<;>omega)|(have J:=(h.lt i O).1.1;omega)|exact absurd (h.lt i O).1.2 ‹_› | exact absurd (h.lt i O).2 ‹_›)).symm)
 have ab:=jW a1
 exact aT A A (congrArg _ (fA (fun h=>by first|exact hQ h.sz ‹_› | exact absurd h.ou (by rw[←B];assumption)|exact absurd (h.sq k O).1 ‹_› | (have D:=h.sq k O;rw[←B] at D;exact absurd D.2 ‹_›)|(rcases(h.sq k O).1.kind with⟨a,b,c⟩|⟨a,b,c⟩<;>omega)|(have J:=(h.lt i O).1.1;omega)|exact absurd (h.lt i O).1.2 ‹_› | exact absurd (h.lt i O).2 ‹_›)).symm)
 exact aT A A (congrArg _ (fA (fun h=>by first|exact hQ h.sz ‹_› | exact absurd h.ou (by rw[←B];assumption)|exact absurd (h.sq k O).1 ‹_› | (have D:=h.sq k O;rw[←B] at D;exact absurd D.2 ‹_›)|(rcases(h.sq k O).1.kind with⟨a,b,c⟩|⟨a,b,c⟩<;>omega)|(have J:=(h.lt i O).1.1;omega)|exact absurd (h.lt i O).1.2 ‹_› | exact absurd (h.lt i O).2 ‹_›)).symm)
 have al:=jW J
 refine bZ A A A A A A (fun ao=>go ?_) (fun ao=>go ?_)
 refine cM A (aF A A (fun w G=>aI (hI ((n.ss.getD k sq0).it) 0 31 w))) (bD (fun a3=>go ?_) (fun a3=>go ?_))
 obtain⟨ad,az⟩:=(dA _ _ _).1 a3
 refine aN A (eV A A A (aE ((E).sq.at (d:=sq0) (k:=k) O))) ?_
 refine bZ A A A A A A (fun ap=>go ?_) (fun ap=>go ?_)
 refine cM A (aF A A (fun w G=>aI (iW ((n.ss.getD k sq0).xs) (lnN n) _ w ((aE ((E).sq.at (d:=sq0) (k:=k) O)) w G) O))) (bD (fun a4=>go ?_) (fun a4=>go ?_))
 have ae:=nH a4
 exact dR (k+1) ⟨O,fun i Z=>by by_cases e:i=k;(subst e;exact⟨by first|assumption|exact⟨O⟩,by rw[←B];assumption⟩);exact M i O⟩ O (bV rfl) (eA [1] rfl)
 have ae:=lB a4
 exact aT A A (congrArg _ (fA (fun h=>by first|exact hQ h.sz ‹_› | exact absurd h.ou (by rw[←B];assumption)|exact absurd (h.sq k O).1 ‹_› | (have D:=h.sq k O;rw[←B] at D;exact absurd D.2 ‹_›)|(rcases(h.sq k O).1.kind with⟨a,b,c⟩|⟨a,b,c⟩<;>omega)|(have J:=(h.lt i O).1.1;omega)|exact absurd (h.lt i O).1.2 ‹_› | exact absurd (h.lt i O).2 ‹_›)).symm)
 exact aT A A (congrArg _ (fA (fun h=>by first|exact hQ h.sz ‹_› | exact absurd h.ou (by rw[←B];assumption)|exact absurd (h.sq k O).1 ‹_› | (have D:=h.sq k O;rw[←B] at D;exact absurd D.2 ‹_›)|(rcases(h.sq k O).1.kind with⟨a,b,c⟩|⟨a,b,c⟩<;>omega)|(have J:=(h.lt i O).1.1;omega)|exact absurd (h.lt i O).1.2 ‹_› | exact absurd (h.lt i O).2 ‹_›)).symm)
 have ad:=jW a3
 exact aT A A (congrArg _ (fA (fun h=>by first|exact hQ h.sz ‹_› | exact absurd h.ou (by rw[←B];assumption)|exact absurd (h.sq k O).1 ‹_› | (have D:=h.sq k O;rw[←B] at D;exact absurd D.2 ‹_›)|(rcases(h.sq k O).1.kind with⟨a,b,c⟩|⟨a,b,c⟩<;>omega)|(have J:=(h.lt i O).1.1;omega)|exact absurd (h.lt i O).1.2 ‹_› | exact absurd (h.lt i O).2 ‹_›)).symm)
 exact aT A A (congrArg _ (fA (fun h=>by first|exact hQ h.sz ‹_› | exact absurd h.ou (by rw[←B];assumption)|exact absurd (h.sq k O).1 ‹_› | (have D:=h.sq k O;rw[←B] at D;exact absurd D.2 ‹_›)|(rcases(h.sq k O).1.kind with⟨a,b,c⟩|⟨a,b,c⟩<;>omega)|(have J:=(h.lt i O).1.1;omega)|exact absurd (h.lt i O).1.2 ‹_› | exact absurd (h.lt i O).2 ‹_›)).symm)
 refine bZ A A A A A A (fun aq=>go ?_) (fun aq=>go ?_)
 refine cM A (aF A A (fun w G=>aI (hI ((n.ss.getD k sq0).it) 0 31 w))) (bD (fun a5=>go ?_) (fun a5=>go ?_))
 obtain⟨af,b0⟩:=(dA _ _ _).1 a5
 refine aN A (eV A A A (aE ((E).sq.at (d:=sq0) (k:=k) O))) ?_
 refine bZ A A A A A A (fun ar=>go ?_) (fun ar=>go ?_)
 refine cM A (aF A A (fun w G=>aI (iW ((n.ss.getD k sq0).xs) (lnN n) _ w ((aE ((E).sq.at (d:=sq0) (k:=k) O)) w G) O))) (bD (fun a6=>go ?_) (fun a6=>go ?_))
 have ag:=nH a6
 exact dR (k+1) ⟨O,fun i Z=>by by_cases e:i=k;(subst e;exact⟨by first|assumption|exact⟨O⟩,by rw[←B];assumption⟩);exact M i O⟩ O (bV rfl) (eA [1] rfl)
 have ag:=lB a6
 exact aT A A (congrArg _ (fA (fun h=>by first|exact hQ h.sz ‹_› | exact absurd h.ou (by rw[←B];assumption)|exact absurd (h.sq k O).1 ‹_› | (have D:=h.sq k O;rw[←B] at D;exact absurd D.2 ‹_›)|(rcases(h.sq k O).1.kind with⟨a,b,c⟩|⟨a,b,c⟩<;>omega)|(have J:=(h.lt i O).1.1;omega)|exact absurd (h.lt i O).1.2 ‹_› | exact absurd (h.lt i O).2 ‹_›)).symm)
 exact aT A A (congrArg _ (fA (fun h=>by first|exact hQ h.sz ‹_› | exact absurd h.ou (by rw[←B];assumption)|exact absurd (h.sq k O).1 ‹_› | (have D:=h.sq k O;rw[←B] at D;exact absurd D.2 ‹_›)|(rcases(h.sq k O).1.kind with⟨a,b,c⟩|⟨a,b,c⟩<;>omega)|(have J:=(h.lt i O).1.1;omega)|exact absurd (h.lt i O).1.2 ‹_› | exact absurd (h.lt i O).2 ‹_›)).symm)
 have af:=jW a5
 exact aT A A (congrArg _ (fA (fun h=>by first|exact hQ h.sz ‹_› | exact absurd h.ou (by rw[←B];assumption)|exact absurd (h.sq k O).1 ‹_› | (have D:=h.sq k O;rw[←B] at D;exact absurd D.2 ‹_›)|(rcases(h.sq k O).1.kind with⟨a,b,c⟩|⟨a,b,c⟩<;>omega)|(have J:=(h.lt i O).1.1;omega)|exact absurd (h.lt i O).1.2 ‹_› | exact absurd (h.lt i O).2 ‹_›)).symm)
 exact aT A A (congrArg _ (fA (fun h=>by first|exact hQ h.sz ‹_› | exact absurd h.ou (by rw[←B];assumption)|exact absurd (h.sq k O).1 ‹_› | (have D:=h.sq k O;rw[←B] at D;exact absurd D.2 ‹_›)|(rcases(h.sq k O).1.kind with⟨a,b,c⟩|⟨a,b,c⟩<;>omega)|(have J:=(h.lt i O).1.1;omega)|exact absurd (h.lt i O).1.2 ‹_› | exact absurd (h.lt i O).2 ‹_›)).symm)
 refine lC (α:=Nat) [0,1,2,3,18,23] A (fun i=>[boxE b1 #[jI n.ins,n.sv,n.lv,n.ov] 108]) (fun i=>[(6,jI (i:Int))]) (fun i=>i≤n.ls.length∧∀j,j<i→LutP (n.fst+j) (n.ls.getD j lt0)) (fun i=>n.ls.length-i) 0 ⟨Nat.zero_le _,fun i Z=>absurd Z O⟩ (bV A) (cZ A) fun i ah=>go ?_
 obtain⟨Z,ai⟩:=ah
 refine aN A (eV A A A (aE ((E).lt.row))) ?_
 refine aW A A A A A A (fun au=>go ?_) (fun au=>go ?_)
 refine aN A (cV 2 A A A A (aE ((E).lt.row))) ?_
 refine aN A (cO (us:=[(n.ls.getD i lt0).iv,jI ((n.ls.getD i lt0).ma)]) A A A A (aE ((E).lt.row)) O A (dQ ltC 2 (fun _=>A) n.ls lt0 (show i<_ by omega) A)) (cU A (bY (z:=.agg #[.slice none 0 0,jI 0]) A A) fun U=>?_)
 refine cA (cs':=#[(n.ls.getD i lt0).iv,jI ((n.ls.getD i lt0).ma)]) (i:=0) (off:=0) (us:=[(n.ls.getD i lt0).iv,jI ((n.ls.getD i lt0).ma)]) A A A A A A A (aC (E.lt.at (d:=lt0) (k:=i) O).one (aC A bH)) A A A (go ?_)
 rcases eq_false_or_eq_true (pB (TabP (((n.ls.getD i lt0).xs).length:Int) ((n.ls.getD i lt0).ma))) with K|K
 have a7:=nH K
 refine bL 18 [[],[0],[1],[],[3],[2,4],[5],[6],[7],[8],[8,9],[8],[8,11],[8],[8,12,13],[8,10,14],[8,15],[8,16]] [81,82,83,84,85,86,87,88,89,90,91,92,93,94,95,96,97,98] [.pointer (some ⟨U,0+0,none⟩),(n.ls.getD i lt0).iv,jI (((n.ls.getD i lt0).xs).length:Int),.pointer (some ⟨U,0+1,none⟩),jI ((n.ls.getD i lt0).ma),.agg #[jI (((n.ls.getD i lt0).xs).length:Int),jI ((n.ls.getD i lt0).ma)],.bool true,.bool false,.bool false,.pointer (some ⟨U,0+0,none⟩),(n.ls.getD i lt0).iv,.agg #[jI n.ins,n.sv,n.lv,n.ov],jI n.fst,jI (i:Int),jI (n.fst+(i:Int)),.bool (pB (BelowP ((n.ls.getD i lt0).xs) (n.fst+(i:Int)))),.bool (!(pB (BelowP ((n.ls.getD i lt0).xs) (n.fst+(i:Int))))),.bool (!(pB (BelowP ((n.ls.getD i lt0).xs) (n.fst+(i:Int)))))] F A ?_ ?_
 exact⟨aJ,aJ,fL A (eV A A A (aE ((E).lt.at (d:=lt0) (k:=i) O))) A,aJ,aJ,fL A (dG (cs:=#[jI (((n.ls.getD i lt0).xs).length:Int),jI ((n.ls.getD i lt0).ma)]) A A A) A,.inl ⟨A,iP (aF F A (fun w G=>aI (oW (((n.ls.getD i lt0).xs).length:Int) ((n.ls.getD i lt0).ma) w))) K⟩,aJ,aJ,aJ,aJ,aJ,.inl ⟨A,aF A A (fun w G=>aI (iI n w (E.below G.bel) Y))⟩,aJ,aJ,.inl ⟨A,aF F A (fun w G=>aI (iW ((n.ls.getD i lt0).xs) (n.fst+(i:Int)) _ w ((aE ((E).lt.at (d:=lt0) (k:=i) O)) w G) O))⟩,aJ,aJ,trivial⟩
 simp only[drop_succ_cons,drop_zero]
 refine go ?_
 refine fO A (fun a8=>go ?_) (fun a8=>go ?_)
 have X:(pB (BelowP ((n.ls.getD i lt0).xs) (n.fst+(i:Int))))=false:=by simpa using a8
 have a9:=lB X
 exact aT A A (congrArg _ (fA (fun h=>by first|exact hQ h.sz ‹_› | exact absurd h.ou (by rw[←B];assumption)|exact absurd (h.sq k O).1 ‹_› | (have D:=h.sq k O;rw[←B] at D;exact absurd D.2 ‹_›)|(rcases(h.sq k O).1.kind with⟨a,b,c⟩|⟨a,b,c⟩<;>omega)|(have J:=(h.lt i O).1.1;omega)|exact absurd (h.lt i O).1.2 ‹_› | exact absurd (h.lt i O).2 ‹_›)).symm)
 have X:(pB (BelowP ((n.ls.getD i lt0).xs) (n.fst+(i:Int))))=true:=by simpa using a8
 have a9:=nH X
 exact dR (i+1) ⟨O,fun j hj=>by by_cases e:j=i;(subst e;exact⟨⟨by first|omega|exact Je I,I⟩,I⟩);exact ai j O⟩ O (bV A) (eA [1] A)
 have a7:=lB K
 refine bL 18 [[],[0],[1],[],[3],[2,4],[5],[6],[7],[8],[8],[8],[8],[8],[8],[8],[8],[8,16]] [81,82,83,84,85,86,87,88,89,90,91,92,93,94,95,96,97,98] [.pointer (some ⟨U,0+0,none⟩),(n.ls.getD i lt0).iv,jI (((n.ls.getD i lt0).xs).length:Int),.pointer (some ⟨U,0+1,none⟩),jI ((n.ls.getD i lt0).ma),.agg #[jI (((n.ls.getD i lt0).xs).length:Int),jI ((n.ls.getD i lt0).ma)],.bool false,.bool true,.bool true,undef,undef,undef,undef,undef,undef,undef,undef,.bool true] F A ?_ ?_
 exact⟨aJ,aJ,fL A (eV A A A (aE ((E).lt.at (d:=lt0) (k:=i) O))) A,aJ,aJ,fL A (dG (cs:=#[jI (((n.ls.getD i lt0).xs).length:Int),jI ((n.ls.getD i lt0).ma)]) A A A) A,.inl ⟨A,iP (aF F A (fun w G=>aI (oW (((n.ls.getD i lt0).xs).length:Int) ((n.ls.getD i lt0).ma) w))) K⟩,aJ,aJ,aJ,aJ,aJ,aJ,aJ,aJ,aJ,aJ,aJ,trivial⟩
 simp only[drop_succ_cons,drop_zero]
 refine go ?_
 exact aT A A (congrArg _ (fA (fun h=>by first|exact hQ h.sz ‹_› | exact absurd h.ou (by rw[←B];assumption)|exact absurd (h.sq k O).1 ‹_› | (have D:=h.sq k O;rw[←B] at D;exact absurd D.2 ‹_›)|(rcases(h.sq k O).1.kind with⟨a,b,c⟩|⟨a,b,c⟩<;>omega)|(have J:=(h.lt i O).1.1;omega)|exact absurd (h.lt i O).1.2 ‹_› | exact absurd (h.lt i O).2 ‹_›)).symm)
 exact aT rfl rfl (congrArg _ (gJ ⟨Y,by rw[←B];assumption,fun q hq=>M q O,fun q hq=>ai q O⟩).symm)
 have aj:=lB h3
 exact aT A A (congrArg _ (fA (fun h=>by first|exact hQ h.sz ‹_› | exact absurd h.ou (by rw[←B];assumption)|exact absurd (h.sq k O).1 ‹_› | (have D:=h.sq k O;rw[←B] at D;exact absurd D.2 ‹_›)|(rcases(h.sq k O).1.kind with⟨a,b,c⟩|⟨a,b,c⟩<;>omega)|(have J:=(h.lt i O).1.1;omega)|exact absurd (h.lt i O).1.2 ‹_› | exact absurd (h.lt i O).2 ‹_›)).symm)
def insI:List Int→Int→List Int
  | [],x=>[x]
  | y::ys,x=>if y<x then y::insI ys x else if y=x then y::ys else x::y::ys
theorem tK (xs:List Int) (x:Int) (k:Nat) (e:k≤xs.length) (B:∀j,j<k→xs.getD j 0<x) (D:k<xs.length→x<xs.getD k 0):insI xs x=xs.take k++[x]++xs.drop k:=by
  induction xs generalizing k with
  | nil=>simp at e;subst e;rfl
  | cons y ys ih=>
    cases k with
    | zero=>
      have:=D AI
      simp at this
      simp only[insI,List.take_zero,nil_append,drop_zero,List.singleton_append]
      rw[if_neg O,if_neg O]
    | succ k=>
      have:=B 0 O
      simp at this
      simp only[insI]
      rw[if_pos this,ih k (by simpa using e) (fun j E=>by have:=B (j+1) O;simpa using this) (fun h=>by have:=D (by simpa using h);simpa using this)]
      simp
theorem At (xs:List Int) (x:Int) (k:Nat) (h:k<xs.length) (B:∀j,j<k→xs.getD j 0<x) (e:xs.getD k 0=x):insI xs x=xs:=by
  induction xs generalizing k with
  | nil=>simp at h
  | cons y ys ih=>
    cases k with
    | zero=>
      simp at e
      simp only[insI]
      rw[if_neg O,if_pos e]
    | succ k=>
      have:=B 0 O
      simp at this
      simp only[insI]
      rw[if_pos this,ih k (by simpa using h) (fun j D=>by have:=B (j+1) O;simpa using this) (by simpa using e)]
theorem wB (v:Value) (xs:List Int) (x:Int) (w:World) (h:RdsW w v 1 xs.length (xs.map (Value.int .i64))) (hn:xs.length≤1000000) :
   Calls Tryz.prog 106 #[v,.int .i64 x] w (Ret w fun Y post=>(Y=v∧post=[]∧insI xs x=xs)∨(post=[rI9 3 Y (insI xs x)])):=by
 refine aY (N:=48) (args:=[v,jI x]) Tryz.func106 A A (cF 1 A (cF 1 A (aG (go ?_))))
 refine lC (α:=Int) [0,1,4] A (fun k=>[]) (fun k=>[(5,jI k)]) (fun k=>0≤k∧k≤xs.length∧∀j,j<k.toNat→xs.getD j 0<x) (fun k=>((xs.length:Int)-k).toNat) 0 ⟨O,O,fun j Z=>absurd Z O⟩ (bV A) (.slnil) fun k D=>go ?_
 obtain⟨a0,a1,B⟩:=D
 refine aW A A A A A A (fun h2=>go ?_) (fun h2=>go ?_)
 refine aN A (cV 1 A A A A (aE h)) (aN A (lP A A A (aE h)) (go ?_))
 refine aW A A A A A A (fun h3=>go ?_) (fun h3=>go ?_)
 exact(dR (k+1) ⟨O,O,fun j Z=>by by_cases E:j=k.toNat;(subst E;assumption);exact B j O⟩ O (bV A) (.slnil))
 refine aW A A A A A A (fun h4=>go ?_) (fun h4=>go ?_)
 refine aN A (cV 1 A A A A (aE h)) (aN A (lP A A A (aE h)) (go ?_))
 refine bZ A A A A A A (fun h5=>go ?_) (fun h5=>go ?_)
 exact bM A A (List.nil_sublist _) (Or.inl ⟨A,A,At xs x k.toNat O B O⟩)
 refine cH A (bU (s:=1) A z8 A) fun g6=>go ?_
 refine aN A (rP A z8 A A A (aE h) O O) ?_
 refine bT (i:=0) (z:=jI 0) (bytes:=8) (n':=(xs.take k.toNat).length) (xs':=(mI (xs.take k.toNat))) A A A A z8 F A A A A (yB (aE h) O) (bI _) AD (Nat.zero_add _) (nil_append _) (fun _=>A) fun v7=>go ?_
 refine cH A (aH (z:=jI 0) (s:=1) (cs:=(mI [x])) A z8 A V A F A) fun g8=>?_
 refine bT (i:=1) (z:=jI 0) (bytes:=8) A A A A z8 F A A A A (aB 0 A) (bI _) AD (bK (xs.take k.toNat) ([x])) (cB (xs.take k.toNat) ([x])) (fun _=>A) fun v9=>go ?_
 refine aN A (nS A z8 A A A (aE h) O O) ?_
 refine bT (i:=1) (z:=jI 0) (bytes:=8) A A A A z8 F A A A A (pK (aE h) O) (bI _) AD (bK ((xs.take k.toNat)++([x])) (xs.drop k.toNat)) (cB ((xs.take k.toNat)++([x])) (xs.drop k.toNat)) (fun _=>A) fun G=>go ?_
 have e:=tK xs x k.toNat O B O
 exact bM (post:=[rowE 3 1 G ((((xs.take k.toNat)++([x]))++(xs.drop k.toNat)).length) (mI (((xs.take k.toNat)++([x]))++(xs.drop k.toNat)))]) A A (eA [1] A) (Or.inr (by rw[e]))
 refine cH A (bU (s:=1) A z8 A) fun a2=>go ?_
 refine aN A (rP A z8 A A A (aE h) O O) ?_
 refine bT (i:=0) (z:=jI 0) (bytes:=8) (n':=(xs.take k.toNat).length) (xs':=(mI (xs.take k.toNat))) A A A A z8 F A A A A (yB (aE h) O) (bI _) AD (Nat.zero_add _) (nil_append _) (fun _=>A) fun a3=>go ?_
 refine cH A (aH (z:=jI 0) (s:=1) (cs:=(mI [x])) A z8 A V A F A) fun a4=>?_
 refine bT (i:=1) (z:=jI 0) (bytes:=8) A A A A z8 F A A A A (aB 0 A) (bI _) AD (bK (xs.take k.toNat) ([x])) (cB (xs.take k.toNat) ([x])) (fun _=>A) fun a5=>go ?_
 refine aN A (nS A z8 A A A (aE h) O O) ?_
 refine bT (i:=1) (z:=jI 0) (bytes:=8) A A A A z8 F A A A A (pK (aE h) O) (bI _) AD (bK ((xs.take k.toNat)++([x])) (xs.drop k.toNat)) (cB ((xs.take k.toNat)++([x])) (xs.drop k.toNat)) (fun _=>A) fun J=>go ?_
 have e:=tK xs x k.toNat O B O
 exact bM (post:=[rowE 3 1 J ((((xs.take k.toNat)++([x]))++(xs.drop k.toNat)).length) (mI (((xs.take k.toNat)++([x]))++(xs.drop k.toNat)))]) A A (eA [1] A) (Or.inr (by rw[e]))
 refine aW A A A A A A (fun K=>go ?_) (fun K=>go ?_)
 refine aN A (cV 1 A A A A (aE h)) (aN A (lP A A A (aE h)) (go ?_))
 refine bZ A A A A A A (fun M=>go ?_) (fun M=>go ?_)
 exact bM A A (List.nil_sublist _) (Or.inl ⟨A,A,At xs x k.toNat O B O⟩)
 refine cH A (bU (s:=1) A z8 A) fun a6=>go ?_
 refine aN A (rP A z8 A A A (aE h) O O) ?_
 refine bT (i:=0) (z:=jI 0) (bytes:=8) (n':=(xs.take k.toNat).length) (xs':=(mI (xs.take k.toNat))) A A A A z8 F A A A A (yB (aE h) O) (bI _) AD (Nat.zero_add _) (nil_append _) (fun _=>A) fun a7=>go ?_
 refine cH A (aH (z:=jI 0) (s:=1) (cs:=(mI [x])) A z8 A V A F A) fun a8=>?_
 refine bT (i:=1) (z:=jI 0) (bytes:=8) A A A A z8 F A A A A (aB 0 A) (bI _) AD (bK (xs.take k.toNat) ([x])) (cB (xs.take k.toNat) ([x])) (fun _=>A) fun a9=>go ?_
 refine aN A (nS A z8 A A A (aE h) O O) ?_
 refine bT (i:=1) (z:=jI 0) (bytes:=8) A A A A z8 F A A A A (pK (aE h) O) (bI _) AD (bK ((xs.take k.toNat)++([x])) (xs.drop k.toNat)) (cB ((xs.take k.toNat)++([x])) (xs.drop k.toNat)) (fun _=>A) fun U=>go ?_
 have e:=tK xs x k.toNat O B O
 exact bM (post:=[rowE 3 1 U ((((xs.take k.toNat)++([x]))++(xs.drop k.toNat)).length) (mI (((xs.take k.toNat)++([x]))++(xs.drop k.toNat)))]) A A (eA [1] A) (Or.inr (by rw[e]))
 refine cH A (bU (s:=1) A z8 A) fun aa=>go ?_
 refine aN A (rP A z8 A A A (aE h) O O) ?_
 refine bT (i:=0) (z:=jI 0) (bytes:=8) (n':=(xs.take k.toNat).length) (xs':=(mI (xs.take k.toNat))) A A A A z8 F A A A A (yB (aE h) O) (bI _) AD (Nat.zero_add _) (nil_append _) (fun _=>A) fun ab=>go ?_
 refine cH A (aH (z:=jI 0) (s:=1) (cs:=(mI [x])) A z8 A V A F A) fun ac=>?_
 refine bT (i:=1) (z:=jI 0) (bytes:=8) A A A A z8 F A A A A (aB 0 A) (bI _) AD (bK (xs.take k.toNat) ([x])) (cB (xs.take k.toNat) ([x])) (fun _=>A) fun ad=>go ?_
 refine aN A (nS A z8 A A A (aE h) O O) ?_
 refine bT (i:=1) (z:=jI 0) (bytes:=8) A A A A z8 F A A A A (pK (aE h) O) (bI _) AD (bK ((xs.take k.toNat)++([x])) (xs.drop k.toNat)) (cB ((xs.take k.toNat)++([x])) (xs.drop k.toNat)) (fun _=>A) fun X=>go ?_
 have e:=tK xs x k.toNat O B O
 exact bM (post:=[rowE 3 1 X ((((xs.take k.toNat)++([x]))++(xs.drop k.toNat)).length) (mI (((xs.take k.toNat)++([x]))++(xs.drop k.toNat)))]) A A (eA [1] A) (Or.inr (by rw[e]))
def kindI (d:Dev) (t:Int):Int:=if (t % d.W=0∨t % d.W=d.W-1)∨(t / d.W=0∨t / d.W=d.H-1) then 0 else if t % d.W=d.R then 2 else 1
theorem jH {d:Dev}{t:Int}(h:t % d.W=0):0=kindI d t:=by simp[kindI,h]
theorem k2_o {d:Dev}{t:Int}(h:t % d.W=d.W-1):0=kindI d t:=by simp[kindI,h]
theorem k3_o {d:Dev}{t:Int}(h:t / d.W=0):0=kindI d t:=by simp[kindI,h]
theorem Ia {d:Dev}{t:Int}(h:(((t % d.W==0)=true∨(t % d.W==d.W-1)=true)∨(t / d.W==0)=true)∨(t / d.W==d.H-1)=true):0=kindI d t:=by
  simp only[beq_iff_eq] at h
  rw[kindI,if_pos (by rcases h with((h|h)|h)|h<;>simp[h])]
theorem k5 {d:Dev}{t:Int}(h:(((t % d.W==0)=false∧(t % d.W==d.W-1)=false)∧(t / d.W==0)=false)∧(t / d.W==d.H-1)=false) (e:(t % d.W==d.R)=true):2=kindI d t:=by
  simp only[beq_eq_false_iff_ne,beq_iff_eq] at h e
  rw[kindI,if_neg (by simp[h]),if_pos e]
theorem k6 {d:Dev}{t:Int}(h:(((t % d.W==0)=false∧(t % d.W==d.W-1)=false)∧(t / d.W==0)=false)∧(t / d.W==d.H-1)=false) (e:(t % d.W==d.R)=false):1=kindI d t:=by
  simp only[beq_eq_false_iff_ne] at h e
  rw[kindI,if_neg (by simp[h]),if_neg e]
theorem iN (d:Dev) (t:Int) (h:devB d=true) (D:0≤t) (E:t≤35) (w:World) :
    Calls Tryz.prog 88 #[.agg #[.int .i64 d.W,.int .i64 d.H,.int .i64 d.T,.int .i64 d.R],.int .i64 t] w fun e B=>e=.returned (.int .i64 (kindI d t))∧Below w.heap.size w B:=by
  obtain⟨⟨G,J⟩,⟨K,M⟩, -, -⟩:=(dI d).1 h
  clear h
  go_enter Tryz.func88,Tryz.ntmps88
  go_wp2
  go_quiet (fail)
  go_wp2
  all_goals go_ret
  all_goals refine⟨fE ?_,gF (eO (Below.refl _ _) _) _⟩
  all_goals first|exact jH I|exact k2_o I|exact k3_o I|exact Ia I|exact k5 I I|exact k6 I I
def tOk (d:Dev) (t:Int):Bool:=devB d&&inR t 0 (d.W*d.H-1)
theorem fC (d:Dev) (t:Int):tOk d t=true↔devB d=true∧0≤t∧t≤d.W*d.H-1:=by unfold tOk;rw[and_eq_true,dA]
theorem hU {d:Dev}(h:devB d=true):9≤d.W*d.H∧d.W*d.H≤36:=by
  obtain⟨⟨e,B⟩,⟨D,E⟩, -, -⟩:=(dI d).1 h
  have G:3*3≤d.W*d.H:=Int.mul_le_mul e D O O
  have J:d.W*d.H≤6*6:=Int.mul_le_mul B E O O
  omega
theorem jX (d:Dev) (t:Int) (w:World) :
    Calls Tryz.prog 86 #[.agg #[.int .i64 d.W,.int .i64 d.H,.int .i64 d.T,.int .i64 d.R],.int .i64 t] w fun e w'=>e=.returned (.bool (tOk d t))∧Below w.heap.size w w':=by
  rcases eq_false_or_eq_true (devB d) with hd|hd
  · have hf := Lib.hid (show tOk d t = inR t 0 (d.W * d.H - 1) by simp [tOk, hd])
    obtain⟨m1,m2⟩:=hU hd
    go_enter Tryz.func86,Tryz.ntmps86
    go_wp2_with fail
    refine(eD d _).mono ?_
    rintro e w1 ⟨rfl,hb1⟩
    obtain⟨hc1,hf1,hz1⟩:=Lm hb1
    have hy1:=Ja hb1
    go_wp2_with fail
    refine(cS _ _ _ _).mono ?_
    rintro e w' ⟨rfl,rfl⟩
    go_wp2
    go_ret
    exact⟨fD hf.out.symm,xE (eO (Below.refl _ _) _) hb1⟩
  · have hf := Lib.hid (show tOk d t = false by simp [tOk, hd])
    go_enter Tryz.func86,Tryz.ntmps86
    go_wp2_with fail
    refine(eD d _).mono ?_
    rintro e w1 ⟨rfl,hb1⟩
    obtain⟨hc1,hf1,hz1⟩:=Lm hb1
    have hy1:=Ja hb1
    go_wp2
    go_ret
    exact⟨fD hf.out.symm,xE (eO (Below.refl _ _) _) hb1⟩
def tileKindI (d:Dev) (t:Int):Int:=if tOk d t=true then kindI d t else -1
theorem fX (d:Dev) (t:Int):kindI d t=0∨kindI d t=1∨kindI d t=2:=by
  unfold kindI;split
  · simp
  · split<;>simp
def dX (dir s:Int):Int:=if dir=0 then s else if dir=2 then -s else 0
def dY (dir s:Int):Int:=if dir=1 then s else if dir=0∨dir=2 then 0 else -s
def stepI (d:Dev) (t dir s:Int):Int:=
  if inR (t % d.W+dX dir s) 0 (d.W-1)=true∧inR (t / d.W+dY dir s) 0 (d.H-1)=true then (t / d.W+dY dir s)*d.W+(t % d.W+dX dir s) else -1
theorem jL {d:Dev}{t dir s:Int}(h:inR (t % d.W+dX dir s) 0 (d.W-1)=false) : -1=stepI d t dir s:=by simp[stepI,h]
theorem jK {d:Dev}{t dir s:Int}(h:inR (t / d.W+dY dir s) 0 (d.H-1)=false) : -1=stepI d t dir s:=by simp[stepI,h]
theorem lY {d:Dev}{t dir s:Int}(h:inR (t % d.W+dX dir s) 0 (d.W-1)=true) (e:inR (t / d.W+dY dir s) 0 (d.H-1)=true) :
    (t / d.W+dY dir s)*d.W+(t % d.W+dX dir s)=stepI d t dir s:=by simp[stepI,h,e]
theorem oD {d:Dev}{t:Int}(e:devB d=true) (h:0≤t) (G:t≤d.W*d.H-1):0≤t % d.W∧t % d.W≤d.W-1∧0≤t / d.W∧t / d.W≤d.H-1∧t / d.W*d.W+t % d.W=t:=by
  obtain⟨⟨J,K⟩,⟨M,U⟩, -, -⟩:=(dI d).1 e
  have B:=Int.emod_nonneg t (show d.W≠0 by omega)
  have X:=Int.emod_lt_of_pos t (show 0<d.W by omega)
  have D:0≤t / d.W:=Int.ediv_nonneg h O
  have Y:t / d.W<d.H:=Int.ediv_lt_of_lt_mul O (by rw[Int.mul_comm];omega)
  have E:=Int.ediv_mul_add_emod t d.W
  exact⟨B,O,D,O,E⟩
theorem zP (d:Dev) (t s:Int) (hv:devB d=true) (t0:0≤t) (t1:t≤d.W*d.H-1) (s0:0≤s) (s1:s≤6) (w:World) :
    Calls Tryz.prog 92 #[.agg #[.int .i64 d.W,.int .i64 d.H,.int .i64 d.T,.int .i64 d.R],.int .i64 t,.int .i64 0,.int .i64 s] w fun e w'=>e=.returned (.int .i64 (stepI d t 0 s))∧Below w.heap.size w w':=by
  have ex:dX 0 s=s:=by simp[dX]
  have ey:dY 0 s=0:=by simp[dY]
  have gx:t % d.W+dX 0 s=t % d.W+s:=by first|(rw[ex];done)|(rw[ex];omega)
  have gy:t / d.W+dY 0 s=t / d.W:=by first|(rw[ey];done)|(rw[ey];omega)
  have o1:=@jL d t 0 s
  have o2:=@jK d t 0 s
  have o3:=@lY d t 0 s
  rw[gx] at o1 o3
  rw[gy] at o2 o3
  clear ex ey gx gy
  obtain⟨x0,x1,y0,y1, -⟩:=oD hv t0 t1
  obtain⟨m1,m2⟩:=hU hv
  obtain⟨⟨a1,a2⟩,⟨b1,b2⟩, -, -⟩:=(dI d).1 hv
  clear hv
  have z:t≤35:=by omega
  rcases eq_false_or_eq_true (inR (t % d.W+s) 0 (d.W-1)) with h1|h1
  rotate_left
  · have hf := Lib.hid (o1 h1)
    clear o1 o2 o3
    go_enter Tryz.func92,Tryz.ntmps92
    go_wp2
    go_quiet (fail)
    go_wp2_with (go_at_call 51;refine(cS _ _ _ _).mono ?_;rintro e w' ⟨rfl,rfl⟩)
    go_ret
    exact⟨fE (by exact hf.out),gF (eO (Below.refl _ _) _) _⟩
  rcases eq_false_or_eq_true (inR (t / d.W) 0 (d.H-1)) with h2|h2
  rotate_left
  · have hf := Lib.hid (o2 h2)
    clear o1 o2 o3
    go_enter Tryz.func92,Tryz.ntmps92
    go_wp2
    go_quiet (fail)
    go_wp2_with (go_at_call 51;refine(cS _ _ _ _).mono ?_;rintro e w' ⟨rfl,rfl⟩)
    go_ret
    exact⟨fE (by exact hf.out),gF (eO (Below.refl _ _) _) _⟩
  · have hf := Lib.hid (o3 h1 h2)
    obtain⟨i1,i2⟩:=(dA _ _ _).1 h1
    obtain⟨i3,i4⟩:=(dA _ _ _).1 h2
    have i5:0≤(t / d.W)*d.W∧(t / d.W)*d.W≤36:=⟨Int.mul_nonneg i3 (by omega),Int.le_trans (Int.mul_le_mul (show t / d.W≤6 by omega) a2 (by omega) (by omega)) (by omega)⟩
    clear o1 o2 o3
    go_enter Tryz.func92,Tryz.ntmps92
    go_wp2
    go_quiet (fail)
    go_wp2_with (go_at_call 51;refine(cS _ _ _ _).mono ?_;rintro e w' ⟨rfl,rfl⟩)
    go_ret
    exact⟨fE (by exact hf.out),gF (eO (Below.refl _ _) _) _⟩
end Go.Proofs.YtkbplgggflljlaaGreat
