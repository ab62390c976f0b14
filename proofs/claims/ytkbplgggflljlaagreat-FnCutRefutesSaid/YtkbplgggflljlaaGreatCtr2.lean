/- Texts of the law FnCutRefutes, part 2: what it uses. -/
import Derived.Test.YtkbplgggflljlaaGreatCtr1
set_option linter.unusedVariables false
set_option linter.unusedSimpArgs false
set_option maxHeartbeats 4000000
set_option maxRecDepth 100000
namespace Go.Proofs.YtkbplgggflljlaaGreat
open Go.RowKit Go.ChangeShapes
open Go.RowKit
open Go.Maps
open List (drop_succ_cons drop_zero getD_eq_getElem?_getD length_append length_cons length_drop length_map length_replicate length_set length_singleton length_take map_append map_cons map_nil mem_cons_of_mem mem_cons_self mem_range mem_singleton nil_append replicate sublist_append_right take_append_drop take_length)
open Bool (and_eq_true eq_false_or_eq_true)
theorem zO (d:Dev) (t s:Int) (hv:devB d=true) (t0:0≤t) (t1:t≤d.W*d.H-1) (s0:0≤s) (s1:s≤6) (w:World) :
    Calls Tryz.prog 92 #[.agg #[.int .i64 d.W,.int .i64 d.H,.int .i64 d.T,.int .i64 d.R],.int .i64 t,.int .i64 1,.int .i64 s] w fun e w'=>e=.returned (.int .i64 (stepI d t 1 s))∧Below w.heap.size w w':=by
  have ex:dX 1 s=0:=by simp[dX]
  have ey:dY 1 s=s:=by simp[dY]
  have gx:t % d.W+dX 1 s=t % d.W:=by first|(rw[ex];done)|(rw[ex];omega)
  have gy:t / d.W+dY 1 s=t / d.W+s:=by first|(rw[ey];done)|(rw[ey];omega)
  have o1:=@jL d t 1 s
  have o2:=@jK d t 1 s
  have o3:=@lY d t 1 s
  rw[gx] at o1 o3
  rw[gy] at o2 o3
  clear ex ey gx gy
  obtain⟨x0,x1,y0,y1, -⟩:=oD hv t0 t1
  obtain⟨m1,m2⟩:=hU hv
  obtain⟨⟨a1,a2⟩,⟨b1,b2⟩, -, -⟩:=(dI d).1 hv
  clear hv
  have z:t≤35:=by omega
  rcases eq_false_or_eq_true (inR (t % d.W) 0 (d.W-1)) with h1|h1
  rotate_left
  · have hf := Lib.hid (o1 h1)
    clear o1 o2 o3
    go_enter Tryz.func92,Tryz.ntmps92
    go_wp2
    go_quiet (fail)
    go_wp2_with (go_at_call 51;refine(cS _ _ _ _).mono ?_;rintro e w' ⟨rfl,rfl⟩)
    go_ret
    exact⟨fE (by exact hf.out),gF (eO (Below.refl _ _) _) _⟩
  rcases eq_false_or_eq_true (inR (t / d.W+s) 0 (d.H-1)) with h2|h2
  rotate_left
  · have hf := Lib.hid (o2 h2)
    clear o1 o2 o3
    go_enter Tryz.func92,Tryz.ntmps92
    go_wp2
    go_quiet (fail)
    go_wp2_with (go_at_call 51;refine(cS _ _ _ _).mono ?_;rintro e w' ⟨rfl,rfl⟩)
    go_ret
    exact⟨fE (by exact hf.out),gF (eO (Below.refl _ _) _) _⟩
  · have hf := Lib.hid (o3 h1 h2)
    obtain⟨i1,i2⟩:=(dA _ _ _).1 h1
    obtain⟨i3,i4⟩:=(dA _ _ _).1 h2
    have i5:0≤(t / d.W+s)*d.W∧(t / d.W+s)*d.W≤36:=⟨Int.mul_nonneg i3 (by omega),Int.le_trans (Int.mul_le_mul (show t / d.W+s≤6 by omega) a2 (by omega) (by omega)) (by omega)⟩
    clear o1 o2 o3
    go_enter Tryz.func92,Tryz.ntmps92
    go_wp2
    go_quiet (fail)
    go_wp2_with (go_at_call 51;refine(cS _ _ _ _).mono ?_;rintro e w' ⟨rfl,rfl⟩)
    go_ret
    exact⟨fE (by exact hf.out),gF (eO (Below.refl _ _) _) _⟩
theorem zN (d:Dev) (t s:Int) (hv:devB d=true) (t0:0≤t) (t1:t≤d.W*d.H-1) (s0:0≤s) (s1:s≤6) (w:World) :
    Calls Tryz.prog 92 #[.agg #[.int .i64 d.W,.int .i64 d.H,.int .i64 d.T,.int .i64 d.R],.int .i64 t,.int .i64 2,.int .i64 s] w fun e w'=>e=.returned (.int .i64 (stepI d t 2 s))∧Below w.heap.size w w':=by
  have ex:dX 2 s = -s:=by simp[dX]
  have ey:dY 2 s=0:=by simp[dY]
  have gx:t % d.W+dX 2 s=t % d.W-s:=by first|(rw[ex];done)|(rw[ex];omega)
  have gy:t / d.W+dY 2 s=t / d.W:=by first|(rw[ey];done)|(rw[ey];omega)
  have o1:=@jL d t 2 s
  have o2:=@jK d t 2 s
  have o3:=@lY d t 2 s
  rw[gx] at o1 o3
  rw[gy] at o2 o3
  clear ex ey gx gy
  obtain⟨x0,x1,y0,y1, -⟩:=oD hv t0 t1
  obtain⟨m1,m2⟩:=hU hv
  obtain⟨⟨a1,a2⟩,⟨b1,b2⟩, -, -⟩:=(dI d).1 hv
  clear hv
  have z:t≤35:=by omega
  rcases eq_false_or_eq_true (inR (t % d.W-s) 0 (d.W-1)) with h1|h1
  rotate_left
  · have hf := Lib.hid (o1 h1)
    clear o1 o2 o3
    go_enter Tryz.func92,Tryz.ntmps92
    go_wp2
    go_quiet (fail)
    go_wp2_with (go_at_call 51;refine(cS _ _ _ _).mono ?_;rintro e w' ⟨rfl,rfl⟩)
    go_ret
    exact⟨fE (by exact hf.out),gF (eO (Below.refl _ _) _) _⟩
  rcases eq_false_or_eq_true (inR (t / d.W) 0 (d.H-1)) with h2|h2
  rotate_left
  · have hf := Lib.hid (o2 h2)
    clear o1 o2 o3
    go_enter Tryz.func92,Tryz.ntmps92
    go_wp2
    go_quiet (fail)
    go_wp2_with (go_at_call 51;refine(cS _ _ _ _).mono ?_;rintro e w' ⟨rfl,rfl⟩)
    go_ret
    exact⟨fE (by exact hf.out),gF (eO (Below.refl _ _) _) _⟩
  · have hf := Lib.hid (o3 h1 h2)
    obtain⟨i1,i2⟩:=(dA _ _ _).1 h1
    obtain⟨i3,i4⟩:=(dA _ _ _).1 h2
    have i5:0≤(t / d.W)*d.W∧(t / d.W)*d.W≤36:=⟨Int.mul_nonneg i3 (by omega),Int.le_trans (Int.mul_le_mul (show t / d.W≤6 by omega) a2 (by omega) (by omega)) (by omega)⟩
    clear o1 o2 o3
    go_enter Tryz.func92,Tryz.ntmps92
    go_wp2
    go_quiet (fail)
    go_wp2_with (go_at_call 51;refine(cS _ _ _ _).mono ?_;rintro e w' ⟨rfl,rfl⟩)
    go_ret
    exact⟨fE (by exact hf.out),gF (eO (Below.refl _ _) _) _⟩
theorem zM (d:Dev) (t dir s:Int) (n0:(dir==0)=false) (n1:(dir==1)=false) (n2:(dir==2)=false) (hv:devB d=true) (t0:0≤t) (t1:t≤d.W*d.H-1) (s0:0≤s) (s1:s≤6) (w:World) :
    Calls Tryz.prog 92 #[.agg #[.int .i64 d.W,.int .i64 d.H,.int .i64 d.T,.int .i64 d.R],.int .i64 t,.int .i64 dir,.int .i64 s] w fun e w'=>e=.returned (.int .i64 (stepI d t dir s))∧Below w.heap.size w w':=by
  have m0:¬dir=0:=by simpa using n0
  have m1':¬dir=1:=by simpa using n1
  have m2':¬dir=2:=by simpa using n2
  have ex:dX dir s=0:=by simp[dX,m0,m2']
  have ey:dY dir s = -s:=by simp[dY,m0,m1',m2']
  clear m0 m1' m2'
  have gx:t % d.W+dX dir s=t % d.W:=by first|(rw[ex];done)|(rw[ex];omega)
  have gy:t / d.W+dY dir s=t / d.W-s:=by first|(rw[ey];done)|(rw[ey];omega)
  have o1:=@jL d t dir s
  have o2:=@jK d t dir s
  have o3:=@lY d t dir s
  rw[gx] at o1 o3
  rw[gy] at o2 o3
  clear ex ey gx gy
  obtain⟨x0,x1,y0,y1, -⟩:=oD hv t0 t1
  obtain⟨m1,m2⟩:=hU hv
  obtain⟨⟨a1,a2⟩,⟨b1,b2⟩, -, -⟩:=(dI d).1 hv
  clear hv
  have z:t≤35:=by omega
  rcases eq_false_or_eq_true (inR (t % d.W) 0 (d.W-1)) with h1|h1
  rotate_left
  · have hf := Lib.hid (o1 h1)
    clear o1 o2 o3
    go_enter Tryz.func92,Tryz.ntmps92
    go_wp2
    go_quiet (fail)
    go_wp2_with (go_at_call 51;refine(cS _ _ _ _).mono ?_;rintro e w' ⟨rfl,rfl⟩)
    go_ret
    exact⟨fE (by exact hf.out),gF (eO (Below.refl _ _) _) _⟩
  rcases eq_false_or_eq_true (inR (t / d.W-s) 0 (d.H-1)) with h2|h2
  rotate_left
  · have hf := Lib.hid (o2 h2)
    clear o1 o2 o3
    go_enter Tryz.func92,Tryz.ntmps92
    go_wp2
    go_quiet (fail)
    go_wp2_with (go_at_call 51;refine(cS _ _ _ _).mono ?_;rintro e w' ⟨rfl,rfl⟩)
    go_ret
    exact⟨fE (by exact hf.out),gF (eO (Below.refl _ _) _) _⟩
  · have hf := Lib.hid (o3 h1 h2)
    obtain⟨i1,i2⟩:=(dA _ _ _).1 h1
    obtain⟨i3,i4⟩:=(dA _ _ _).1 h2
    have i5:0≤(t / d.W-s)*d.W∧(t / d.W-s)*d.W≤36:=⟨Int.mul_nonneg i3 (by omega),Int.le_trans (Int.mul_le_mul (show t / d.W-s≤6 by omega) a2 (by omega) (by omega)) (by omega)⟩
    clear o1 o2 o3
    go_enter Tryz.func92,Tryz.ntmps92
    go_wp2
    go_quiet (fail)
    go_wp2_with (go_at_call 51;refine(cS _ _ _ _).mono ?_;rintro e w' ⟨rfl,rfl⟩)
    go_ret
    exact⟨fE (by exact hf.out),gF (eO (Below.refl _ _) _) _⟩
theorem iU (d:Dev) (t dir s:Int) (hv:devB d=true) (t0:0≤t) (t1:t≤d.W*d.H-1) (r0:0≤dir) (r1:dir≤3) (s0:0≤s) (s1:s≤6) (w:World) :
    Calls Tryz.prog 92 #[.agg #[.int .i64 d.W,.int .i64 d.H,.int .i64 d.T,.int .i64 d.R],.int .i64 t,.int .i64 dir,.int .i64 s] w fun e w'=>e=.returned (.int .i64 (stepI d t dir s))∧Below w.heap.size w w':=by
  by_cases h0:dir=0
  · subst h0;exact zP d t s hv t0 t1 s0 s1 w
  · by_cases h1 : dir = 1
    · subst h1;exact zO d t s hv t0 t1 s0 s1 w
    · by_cases h2 : dir = 2
      · subst h2;exact zN d t s hv t0 t1 s0 s1 w
      · exact zM d t dir s (by simpa using h0) (by simpa using h1) (by simpa using h2) hv t0 t1 s0 s1 w
def tileStepI (d:Dev) (t dir s:Int):Int:=if tOk d t=true∧inR dir 0 3=true∧inR s 0 6=true then stepI d t dir s else -1
def absI (n:Int):Int:=if n<0 then -n else n
def distI (d:Dev) (a b:Int):Int:=absI (a % d.W-b % d.W)+absI (a / d.W-b / d.W)
def perI (d:Dev):Int:=7+4*d.T
def allI (d:Dev):Int:=d.W*d.H*perI d
def inPinsI (k:Int):Int:=if k=0 then 1 else if k=1 then 5 else if k=2 then 4 else 0
def outPinsI (k:Int):Int:=if k=0 then 1 else if k=1 then 2 else if k=2 then 1 else 0
abbrev DevS (w0:World) (B:Nat) (d:Dev) (w':World):Prop:=w'.cell? ⟨B,0,none⟩=some (.int .i64 d.W)∧w'.cell? ⟨B,1,none⟩=some (.int .i64 d.H)∧w'.cell? ⟨B,2,none⟩=some (.int .i64 d.T)∧w'.cell? ⟨B,3,none⟩=some (.int .i64 d.R)∧Below (B+1) w0 w'
theorem kJ {w0:World}{B:Nat}{d:Dev}{X:World}(h:DevS w0 B d X):DevS w0 B d X.drew:=⟨h.1,h.2.1,h.2.2.1,h.2.2.2.1,h.2.2.2.2.drew⟩
theorem bX {w0:World}{B:Nat}{d:Dev}{X Y:World}(h:DevS w0 B d X) (D:Below X.heap.size X Y):DevS w0 B d Y:=by
  have e:B<X.heap.size:=World.block_lt_of_cell? _ _ h.1
  exact⟨(D.cell (p:=⟨B,0,none⟩) e).trans h.1,(D.cell (p:=⟨B,1,none⟩) e).trans h.2.1,(D.cell (p:=⟨B,2,none⟩) e).trans h.2.2.1,(D.cell (p:=⟨B,3,none⟩) e).trans h.2.2.2.1,h.2.2.2.2.trans (D.mono e)⟩
theorem cY (w:World) (d:Dev):DevS (w.alloc (.cells #[.int .i64 d.W,.int .i64 d.H,.int .i64 d.T,.int .i64 d.R] 25)) w.heap.size d (w.alloc (.cells #[.int .i64 d.W,.int .i64 d.H,.int .i64 d.T,.int .i64 d.R] 25)):=
  ⟨World.cell?_alloc_at _ _ _ _ rfl,World.cell?_alloc_at _ _ _ _ rfl,World.cell?_alloc_at _ _ _ _ rfl,World.cell?_alloc_at _ _ _ _ rfl,Below.refl _ _⟩
theorem eR {w:World}{d:Dev}{o:Obj}{Y:World}(h:DevS (w.alloc o) w.heap.size d Y):Below w.heap.size w Y:=(eO (Below.refl _ _) _).trans (h.2.2.2.2.mono O)
theorem fR {d:Dev}(e:devB d=true):11≤perI d∧perI d≤23:=by
  obtain⟨-, -,⟨h,B⟩, -⟩:=(dI d).1 e
  unfold perI;omega
theorem eM {d:Dev}(e:devB d=true):99≤allI d∧allI d≤828:=by
  obtain⟨h,B⟩:=fR e
  obtain⟨D,E⟩:=hU e
  have G:9*11≤d.W*d.H*perI d:=Int.mul_le_mul D h O O
  have J:d.W*d.H*perI d≤36*23:=Int.mul_le_mul E B O O
  unfold allI;omega
theorem iE {d:Dev}{n:Int}(e:devB d=true) (B:0≤n) (D:n≤allI d-1):0≤n / perI d∧n / perI d≤d.W*d.H-1∧0≤n % perI d∧n % perI d≤perI d-1∧tOk d (n / perI d)=true:=by
  obtain⟨G,J⟩:=fR e
  have h:0≤n / perI d:=Int.ediv_nonneg B O
  have K:n / perI d<d.W*d.H:=Int.ediv_lt_of_lt_mul O (by unfold allI at D;omega)
  have E:=Int.emod_nonneg n (show perI d≠0 by omega)
  have M:=Int.emod_lt_of_pos n (show 0<perI d by omega)
  exact⟨h,O,E,O,(fC _ _).2 ⟨e,h,O⟩⟩
theorem jN (d:Dev)  (h:devB d=true) (w:World) :
    Calls Tryz.prog 70 #[.agg #[.int .i64 d.W,.int .i64 d.H,.int .i64 d.T,.int .i64 d.R]] w fun e B=>e=.returned (.int .i64 (perI d))∧Below w.heap.size w B:=by
  obtain⟨⟨D,E⟩,⟨G,J⟩,⟨K,M⟩, -⟩:=(dI d).1 h
  go_enter Tryz.func70,Tryz.ntmps70
  go_wp2
  go_ret
  exact⟨rfl,eO (Below.refl _ _) _⟩
theorem kV (d:Dev)  (h:devB d=true) (w:World) :
    Calls Tryz.prog 38 #[.agg #[.int .i64 d.W,.int .i64 d.H,.int .i64 d.T,.int .i64 d.R]] w fun e B=>e=.returned (.int .i64 (allI d))∧Below w.heap.size w B:=by
  obtain⟨⟨K,M⟩,⟨U,X⟩,⟨Y,Z⟩, -⟩:=(dI d).1 h
  obtain⟨h1,h2⟩:=fR h
  obtain⟨m1,m2⟩:=hU h
  obtain⟨E,G⟩:=eM h
  unfold allI at E G
  have e1:IntKind.i64.wrap (d.W*d.H)=d.W*d.H:=IntWalk.i64_in _ O
  have e2:IntKind.i64.wrap (d.W*d.H*perI d)=d.W*d.H*perI d:=IntWalk.i64_in _ O
  have D:=cY w d
  have J:=Lib.hid D
  go_enter Tryz.func38,Tryz.ntmps38
  go_wp2
  go_region_held3 (fun B=>DevS (w.alloc (.cells #[.int .i64 d.W,.int .i64 d.H,.int .i64 d.T,.int .i64 d.R] 25)) w.heap.size d B) (first|assumption|exact kJ I|exact devS_alloc I _|exact bX I I) (first|(go_at_call 70;refine(jN d h _).mono ?_;rintro e w1 ⟨rfl,hb1⟩))
  go_wp2
  go_ret
  exact⟨rfl,eR I⟩
theorem uW (k:Int) (h:k=0∨k=1∨k=2) (w:World):Calls Tryz.prog 89 #[.int .i64 k] w fun e B=>e=.returned (.int .i64 (inPinsI k))∧w=B:=by
  rcases h with rfl|rfl|rfl
  all_goals
    go_enter Tryz.func89,Tryz.ntmps89
    go_wp2
    go_ret
    exact⟨rfl,rfl⟩
theorem sG (k:Int) (h:k=0∨k=1∨k=2) (w:World):Calls Tryz.prog 87 #[.int .i64 k] w fun e B=>e=.returned (.int .i64 (outPinsI k))∧w=B:=by
  rcases h with rfl|rfl|rfl
  all_goals
    go_enter Tryz.func87,Tryz.ntmps87
    go_wp2
    go_ret
    exact⟨rfl,rfl⟩
theorem jJ (k:Int) (B:0≤k) (D:k≤3) (w:World):Calls Tryz.prog 93 #[.int .i64 k] w fun e h=>e=.returned (.int .i64 (1+k % 2))∧w=h:=by
  go_enter Tryz.func93,Tryz.ntmps93
  go_wp2
  go_ret
  exact⟨rfl,rfl⟩
theorem gT (d:Dev) (n:Int) (h:devB d=true) (E:0≤n) (J:n≤100000) (w:World) :
    Calls Tryz.prog 91 #[.agg #[.int .i64 d.W,.int .i64 d.H,.int .i64 d.T,.int .i64 d.R],.int .i64 n] w fun e B=>e=.returned (.tuple #[.int .i64 (n / perI d),.int .i64 (n % perI d)])∧Below w.heap.size w B:=by
  obtain⟨⟨K,M⟩,⟨U,X⟩,⟨Y,Z⟩, -⟩:=(dI d).1 h
  obtain⟨h1,h2⟩:=fR h
  have q1:¬perI d=0:=O
  have q2:IntKind.i64.wrap (n.tdiv (perI d))=n / perI d:=IntWalk.i64_quo _ _ O
  have q3:n.tmod (perI d)=n % perI d:=Int.tmod_eq_emod_of_nonneg E
  have D:=cY w d
  have G:=Lib.hid D
  go_enter Tryz.func91,Tryz.ntmps91
  go_wp2
  go_region_held3 (fun B=>DevS (w.alloc (.cells #[.int .i64 d.W,.int .i64 d.H,.int .i64 d.T,.int .i64 d.R] 25)) w.heap.size d B) (first|assumption|exact kJ I|exact devS_alloc I _|exact bX I I) (first|(go_at_call 70;refine(jN d h _).mono ?_;rintro e w1 ⟨rfl,hb1⟩))
  all_goals
    go_wp2
    go_ret2
    exact⟨rfl,eR I⟩
def nodeB (d:Dev) (t k:Int):Bool:=
  if k<5 then decide (k<inPinsI (kindI d t)) else if k<7 then decide (k-5<outPinsI (kindI d t)) else decide (0≤stepI d t ((k-7) / d.T) (1+(k-7) % d.T % 2))
def nodeOkI (d:Dev) (n:Int):Bool:=devB d&&inR n 0 (allI d-1)&&nodeB d (n / perI d) (n % perI d)
theorem uL {d:Dev}{n:Int}(h:devB d=false):nodeOkI d n=false:=by simp[nodeOkI,h]
theorem pM {d:Dev}{n:Int}(h:inR n 0 (allI d-1)=false):nodeOkI d n=false:=by simp[nodeOkI,h]
theorem oN {d:Dev}{n:Int}(h:devB d=true) (e:inR n 0 (allI d-1)=true):nodeOkI d n=nodeB d (n / perI d) (n % perI d):=by simp[nodeOkI,h,e]
theorem Ae {d:Dev}{t k:Int}(h:k<5):nodeB d t k=decide (k<inPinsI (kindI d t)):=if_pos h
theorem rU {d:Dev}{t k:Int}(h:5≤k) (e:k<7):nodeB d t k=decide (k-5<outPinsI (kindI d t)):=by rw[nodeB,if_neg O,if_pos e]
theorem pN {d:Dev}{t k:Int}(h:7≤k):nodeB d t k=decide (0≤stepI d t ((k-7) / d.T) (1+(k-7) % d.T % 2)):=by rw[nodeB,if_neg O,if_neg O]
theorem kS {d:Dev}{k:Int}(e:devB d=true) (k0:7≤k) (jH:k≤perI d-1):0≤(k-7) / d.T∧(k-7) / d.T≤3∧0≤(k-7) % d.T∧(k-7) % d.T≤d.T-1:=by
  obtain⟨-, -,⟨h,B⟩, -⟩:=(dI d).1 e
  have D:0≤(k-7) / d.T:=Int.ediv_nonneg O O
  have E:(k-7) / d.T<4:=Int.ediv_lt_of_lt_mul O (by unfold perI at jH;omega)
  have G:=Int.emod_nonneg (k-7) (show d.T≠0 by omega)
  have J:=Int.emod_lt_of_pos (k-7) (show 0<d.T by omega)
  omega
theorem sE (d:Dev) (n:Int) (h:devB d=true) (J:0≤n) (K:n≤allI d-1) (M:7≤n % perI d) (w:World) :
    Calls Tryz.prog 83 #[.agg #[.int .i64 d.W,.int .i64 d.H,.int .i64 d.T,.int .i64 d.R],.int .i64 n] w fun e U=>e=.returned (.tuple #[.int .i64 (n / perI d),.int .i64 ((n % perI d-7) / d.T),.int .i64 ((n % perI d-7) % d.T),.bool true])∧Below w.heap.size w U:=by
  obtain⟨Y,Z⟩:=fR h
  obtain⟨m1,m2⟩:=eM h
  obtain⟨p0,p1,p2,X,p4⟩:=iE h J K
  obtain⟨-, -,⟨t1,t2⟩, -⟩:=(dI d).1 h
  obtain⟨g0,g1,g2,g3⟩:=kS h M X
  have B:=cY w d
  have E:=Lib.hid B
  go_enter Tryz.func83,Tryz.ntmps83
  go_wp2_with fail
  refine(gT d n h J O _).mono ?_
  rintro e w1 ⟨rfl,hb1⟩
  have D:=bX E.out hb1
  have G:=Lib.hid D
  clear B
  obtain⟨c0,c1,c2,c3, -⟩:=D
  clear hb1
  go_wp2
  go_quiet (fail)
  go_wp2
  refine bodyPost_ret (v:=.tuple #[.int .i64 (n / perI d),.int .i64 ((n % perI d-7) / d.T),.int .i64 ((n % perI d-7) % d.T),.bool true]) (by simp[results,Tryz.results83,go_sem]) rfl ⟨rfl,?_⟩
  exact gF (eR G.out) _
theorem gO (d:Dev) (n:Int) (w:World) :
    Calls Tryz.prog 75 #[.agg #[.int .i64 d.W,.int .i64 d.H,.int .i64 d.T,.int .i64 d.R],.int .i64 n] w fun e w'=>e=.returned (.bool (nodeOkI d n))∧Below w.heap.size w w':=by
  rcases eq_false_or_eq_true (devB d) with hv|hv
  rotate_left
  · have hf := Lib.hid (uL (n := n) hv)
    have hS0:=cY w d
    have HS0:=Lib.hid hS0
    go_enter Tryz.func75,Tryz.ntmps75
    go_wp2_with fail
    refine(eD d _).mono ?_
    rintro e w1 ⟨rfl,hb1⟩
    have hS1:=bX HS0.out hb1
    have HS1:=Lib.hid hS1
    clear hS0
    obtain⟨c0,c1,c2,c3, -⟩:=hS1
    clear hb1
    go_wp2
    go_ret
    exact⟨fD hf.out.symm,eR HS1.out⟩
  obtain⟨m1,m2⟩:=eM hv
  rcases eq_false_or_eq_true (inR n 0 (allI d-1)) with hn|hn
  rotate_left
  · have hf := Lib.hid (pM hn)
    have hS0:=cY w d
    have HS0:=Lib.hid hS0
    go_enter Tryz.func75,Tryz.ntmps75
    go_wp2_with fail
    refine(eD d _).mono ?_
    rintro e w1 ⟨rfl,hb1⟩
    have hS1:=bX HS0.out hb1
    have HS1:=Lib.hid hS1
    clear hS0
    obtain⟨c0,c1,c2,c3, -⟩:=hS1
    clear hb1
    go_wp2_with fail
    refine(kV d hv _).mono ?_
    rintro e w2 ⟨rfl,hb2⟩
    have hS2:=bX HS1.out hb2
    have HS2:=Lib.hid hS2
    clear c0 c1 c2 c3
    obtain⟨c0,c1,c2,c3, -⟩:=hS2
    clear hb2
    go_wp2_with fail
    refine(cS _ _ _ _).mono ?_
    rintro e w' ⟨rfl,rfl⟩
    go_wp2
    go_ret
    exact⟨fD hf.out.symm,eR HS2.out⟩
  have hf0:=oN hv hn
  obtain⟨n0,n1⟩:=(dA _ _ _).1 hn
  obtain⟨h1,h2⟩:=fR hv
  obtain⟨m1,m2⟩:=eM hv
  obtain⟨p0,p1,p2,p3,p4⟩:=iE hv n0 n1
  obtain⟨-, -,⟨t1,t2⟩, -⟩:=(dI d).1 hv
  by_cases k5:n % perI d<5
  · have hf := Lib.hid (hf0.trans (Ae k5))
    clear hf0
    have kc:=fX d (n / perI d)
    have hS0:=cY w d
    have HS0:=Lib.hid hS0
    go_enter Tryz.func75,Tryz.ntmps75
    go_wp2_with fail
    refine(eD d _).mono ?_
    rintro e w1 ⟨rfl,hb1⟩
    have hS1:=bX HS0.out hb1
    have HS1:=Lib.hid hS1
    clear hS0
    obtain⟨c0,c1,c2,c3, -⟩:=hS1
    clear hb1
    go_wp2_with fail
    refine(kV d hv _).mono ?_
    rintro e w2 ⟨rfl,hb2⟩
    have hS2:=bX HS1.out hb2
    have HS2:=Lib.hid hS2
    clear c0 c1 c2 c3
    obtain⟨c0,c1,c2,c3, -⟩:=hS2
    clear hb2
    go_wp2_with fail
    refine(cS _ _ _ _).mono ?_
    rintro e w' ⟨rfl,rfl⟩
    go_wp2_with fail
    refine(gT d n hv n0 (by omega) _).mono ?_
    rintro e w3 ⟨rfl,hb3⟩
    have hS3:=bX HS2.out hb3
    have HS3:=Lib.hid hS3
    clear c0 c1 c2 c3
    obtain⟨c0,c1,c2,c3, -⟩:=hS3
    clear hb3
    go_wp2_with fail
    refine(iN d _ hv p0 (by have:=hU hv;omega) _).mono ?_
    rintro e w4 ⟨rfl,hb4⟩
    have hS4:=bX HS3.out hb4
    have HS4:=Lib.hid hS4
    clear c0 c1 c2 c3
    obtain⟨c0,c1,c2,c3, -⟩:=hS4
    clear hb4
    go_wp2_with fail
    refine(uW _ kc _).mono ?_
    rintro e w' ⟨rfl,rfl⟩
    go_wp2
    go_ret
    exact⟨fD hf.out.symm,eR HS4.out⟩
  by_cases k7:n % perI d<7
  · have hf := Lib.hid (hf0.trans (rU (by omega) k7))
    clear hf0
    have kc:=fX d (n / perI d)
    have hS0:=cY w d
    have HS0:=Lib.hid hS0
    go_enter Tryz.func75,Tryz.ntmps75
    go_wp2_with fail
    refine(eD d _).mono ?_
    rintro e w1 ⟨rfl,hb1⟩
    have hS1:=bX HS0.out hb1
    have HS1:=Lib.hid hS1
    clear hS0
    obtain⟨c0,c1,c2,c3, -⟩:=hS1
    clear hb1
    go_wp2_with fail
    refine(kV d hv _).mono ?_
    rintro e w2 ⟨rfl,hb2⟩
    have hS2:=bX HS1.out hb2
    have HS2:=Lib.hid hS2
    clear c0 c1 c2 c3
    obtain⟨c0,c1,c2,c3, -⟩:=hS2
    clear hb2
    go_wp2_with fail
    refine(cS _ _ _ _).mono ?_
    rintro e w' ⟨rfl,rfl⟩
    go_wp2_with fail
    refine(gT d n hv n0 (by omega) _).mono ?_
    rintro e w3 ⟨rfl,hb3⟩
    have hS3:=bX HS2.out hb3
    have HS3:=Lib.hid hS3
    clear c0 c1 c2 c3
    obtain⟨c0,c1,c2,c3, -⟩:=hS3
    clear hb3
    go_wp2_with fail
    refine(iN d _ hv p0 (by have:=hU hv;omega) _).mono ?_
    rintro e w4 ⟨rfl,hb4⟩
    have hS4:=bX HS3.out hb4
    have HS4:=Lib.hid hS4
    clear c0 c1 c2 c3
    obtain⟨c0,c1,c2,c3, -⟩:=hS4
    clear hb4
    go_wp2_with fail
    refine(sG _ kc _).mono ?_
    rintro e w' ⟨rfl,rfl⟩
    go_wp2
    go_ret
    exact⟨fD hf.out.symm,eR HS4.out⟩
  · have hf := Lib.hid (hf0.trans (pN (by omega)))
    clear hf0
    obtain⟨g0,g1,g2,g3⟩:=kS hv (by omega) p3
    have z:0≤1+(n % perI d-7) % d.T % 2∧1+(n % perI d-7) % d.T % 2≤2:=by omega
    have hS0:=cY w d
    have HS0:=Lib.hid hS0
    go_enter Tryz.func75,Tryz.ntmps75
    go_wp2_with fail
    refine(eD d _).mono ?_
    rintro e w1 ⟨rfl,hb1⟩
    have hS1:=bX HS0.out hb1
    have HS1:=Lib.hid hS1
    clear hS0
    obtain⟨c0,c1,c2,c3, -⟩:=hS1
    clear hb1
    go_wp2_with fail
    refine(kV d hv _).mono ?_
    rintro e w2 ⟨rfl,hb2⟩
    have hS2:=bX HS1.out hb2
    have HS2:=Lib.hid hS2
    clear c0 c1 c2 c3
    obtain⟨c0,c1,c2,c3, -⟩:=hS2
    clear hb2
    go_wp2_with fail
    refine(cS _ _ _ _).mono ?_
    rintro e w' ⟨rfl,rfl⟩
    go_wp2_with fail
    refine(gT d n hv n0 (by omega) _).mono ?_
    rintro e w3 ⟨rfl,hb3⟩
    have hS3:=bX HS2.out hb3
    have HS3:=Lib.hid hS3
    clear c0 c1 c2 c3
    obtain⟨c0,c1,c2,c3, -⟩:=hS3
    clear hb3
    go_wp2_with fail
    refine(sE d n hv n0 n1 (by omega) _).mono ?_
    rintro e w4 ⟨rfl,hb4⟩
    have hS4:=bX HS3.out hb4
    have HS4:=Lib.hid hS4
    clear c0 c1 c2 c3
    obtain⟨c0,c1,c2,c3, -⟩:=hS4
    clear hb4
    have hS:=HS4.out
    clear c0 c1 c2 c3
    go_wp2
    go_region_held3 (fun w'=>DevS (w.alloc (.cells #[.int .i64 d.W,.int .i64 d.H,.int .i64 d.T,.int .i64 d.R] 25)) w.heap.size d w') (first|assumption|exact kJ (by assumption)|exact devS_alloc (by assumption) _|exact bX (by assumption) (by assumption)) (first|(go_at_call 93;refine(jJ _ g2 (by omega) _).mono ?_;rintro e w1 ⟨rfl,rfl⟩)|(go_at_call 92;refine(iU d _ _ _ hv p0 p1 g0 g1 z.1 (by omega) _).mono ?_;rintro e w1 ⟨rfl,hb1⟩))
    all_goals
      go_wp2
      go_ret
      exact⟨fD hf.out.symm,eR (by assumption)⟩
def wireN (d:Dev) (t dir k:Int):Int:=t*perI d+7+dir*d.T+k
theorem zI (d:Dev) (t dir k:Int) (K:tOk d t=true) (B:0≤dir) (D:dir≤3) (k0:0≤k) (jH:k≤d.T-1) (hs:stepI d t dir (1+k % 2)<0) (w:World) :
    Calls Tryz.prog 105 #[.agg #[.int .i64 d.W,.int .i64 d.H,.int .i64 d.T,.int .i64 d.R],.int .i64 t,.int .i64 dir,.int .i64 k] w fun e E=>e=.returned (.int .i64 (-1))∧Below w.heap.size w E:=by
  obtain⟨h,J,M⟩:=(fC d t).1 K
  obtain⟨m1,m2⟩:=hU h
  obtain⟨h1,U⟩:=fR h
  obtain⟨-, -,⟨l1,X⟩, -⟩:=(dI d).1 h
  have Y:inR dir 0 3=true:=gL B D
  have Z:inR k 0 (d.T-1)=true:=gL k0 jH
  have e0:0≤t*perI d∧t*perI d≤35*23:=⟨Int.mul_nonneg J O,Int.mul_le_mul O U O O⟩
  have e9:0≤dir*d.T∧dir*d.T≤3*4:=⟨Int.mul_nonneg B O,Int.mul_le_mul D X O O⟩
  have e1:IntKind.i64.wrap (t*perI d)=t*perI d:=IntWalk.i64_in _ O
  have e2:IntKind.i64.wrap (t*perI d+7)=t*perI d+7:=IntWalk.i64_in _ O
  have e3:IntKind.i64.wrap (dir*d.T)=dir*d.T:=IntWalk.i64_in _ O
  have e4:IntKind.i64.wrap (t*perI d+7+dir*d.T)=t*perI d+7+dir*d.T:=IntWalk.i64_in _ O
  have e5:IntKind.i64.wrap (t*perI d+7+dir*d.T+k)=t*perI d+7+dir*d.T+k:=IntWalk.i64_in _ O
  have e6:IntKind.i64.wrap (d.T-1)=d.T-1:=IntWalk.i64_in _ O
  have z:0≤1+k % 2∧1+k % 2≤2:=O
  have G:=cY w d
  have a0:=Lib.hid G
  go_enter Tryz.func105,Tryz.ntmps105
  go_wp2
  go_region_held3 (fun E=>DevS (w.alloc (.cells #[.int .i64 d.W,.int .i64 d.H,.int .i64 d.T,.int .i64 d.R] 25)) w.heap.size d E) (first|assumption|exact kJ I|exact devS_alloc I _|exact bX I I) (first|(go_at_call 86;refine(jX d t _).mono ?_;rintro e w1 ⟨rfl,hb1⟩)|(go_at_call 51;refine(cS _ _ _ _).mono ?_;rintro e w1 ⟨rfl,rfl⟩)|(go_at_call 93;refine(jJ _ k0 O _).mono ?_;rintro e w1 ⟨rfl,rfl⟩)|(go_at_call 92;refine(iU d _ _ _ h J M B D z.1 O _).mono ?_;rintro e w1 ⟨rfl,hb1⟩))
  all_goals go_wp2
  all_goals go_ret
  all_goals exact⟨rfl,eR I⟩
theorem xJ (d:Dev) (t dir k:Int) (K:tOk d t=true) (D:0≤dir) (E:dir≤3) (k0:0≤k) (jH:k≤d.T-1) (hs:0≤stepI d t dir (1+k % 2)) (w:World) :
    Calls Tryz.prog 105 #[.agg #[.int .i64 d.W,.int .i64 d.H,.int .i64 d.T,.int .i64 d.R],.int .i64 t,.int .i64 dir,.int .i64 k] w fun e h=>e=.returned (.int .i64 (wireN d t dir k))∧Below w.heap.size w h:=by
  obtain⟨B,J,M⟩:=(fC d t).1 K
  obtain⟨m1,m2⟩:=hU B
  obtain⟨h1,U⟩:=fR B
  obtain⟨-, -,⟨l1,X⟩, -⟩:=(dI d).1 B
  have Y:inR dir 0 3=true:=gL D E
  have Z:inR k 0 (d.T-1)=true:=gL k0 jH
  have e0:0≤t*perI d∧t*perI d≤35*23:=⟨Int.mul_nonneg J O,Int.mul_le_mul O U O O⟩
  have e9:0≤dir*d.T∧dir*d.T≤3*4:=⟨Int.mul_nonneg D O,Int.mul_le_mul E X O O⟩
  have e1:IntKind.i64.wrap (t*perI d)=t*perI d:=IntWalk.i64_in _ O
  have e2:IntKind.i64.wrap (t*perI d+7)=t*perI d+7:=IntWalk.i64_in _ O
  have e3:IntKind.i64.wrap (dir*d.T)=dir*d.T:=IntWalk.i64_in _ O
  have e4:IntKind.i64.wrap (t*perI d+7+dir*d.T)=t*perI d+7+dir*d.T:=IntWalk.i64_in _ O
  have e5:IntKind.i64.wrap (t*perI d+7+dir*d.T+k)=t*perI d+7+dir*d.T+k:=IntWalk.i64_in _ O
  have e6:IntKind.i64.wrap (d.T-1)=d.T-1:=IntWalk.i64_in _ O
  have z:0≤1+k % 2∧1+k % 2≤2:=O
  have G:=cY w d
  have a0:=Lib.hid G
  go_enter Tryz.func105,Tryz.ntmps105
  go_wp2
  go_region_held3 (fun h=>DevS (w.alloc (.cells #[.int .i64 d.W,.int .i64 d.H,.int .i64 d.T,.int .i64 d.R] 25)) w.heap.size d h) (first|assumption|exact kJ I|exact devS_alloc I _|exact bX I I) (first|(go_at_call 86;refine(jX d t _).mono ?_;rintro e w1 ⟨rfl,hb1⟩)|(go_at_call 51;refine(cS _ _ _ _).mono ?_;rintro e w1 ⟨rfl,rfl⟩)|(go_at_call 93;refine(jJ _ k0 O _).mono ?_;rintro e w1 ⟨rfl,rfl⟩)|(go_at_call 92;refine(iU d _ _ _ B J M D E z.1 O _).mono ?_;rintro e w1 ⟨rfl,hb1⟩))
  all_goals go_wp2
  all_goals
    go_region_held3 (fun h=>DevS (w.alloc (.cells #[.int .i64 d.W,.int .i64 d.H,.int .i64 d.T,.int .i64 d.R] 25)) w.heap.size d h) (first|assumption|exact kJ I|exact devS_alloc I _|exact bX I I) (first|(go_at_call 70;refine(jN d B _).mono ?_;rintro e w1 ⟨rfl,hb1⟩))
  all_goals go_wp2
  all_goals go_ret
  all_goals exact⟨rfl,eR I⟩
def reachN (d:Dev) (t dir:Int):Nat→List Int
  | 0=>[]
  | j+1=>reachN d t dir j++[stepI d t dir ((j:Int)+1)]
theorem wI {W x y:Int}(B:0<W) (e:0≤x) (h:x<W):(y*W+x) % W=x∧(y*W+x) / W=y:=by
  constructor
  · rw[Int.add_comm,Int.add_mul_emod_self_right,Int.emod_eq_of_lt e h]
  · rw[Int.add_comm,Int.add_mul_ediv_right _ _ O,Int.ediv_eq_zero_of_lt e h,Int.zero_add]
theorem Kw (dir s:Int) (e:0≤dir) (h:dir≤3):dX ((dir+2) % 4) s = - dX dir s∧dY ((dir+2) % 4) s = - dY dir s∧absI (dX dir s)+absI (dY dir s)=absI s:=by
  obtain rfl|rfl|rfl|rfl:dir=0∨dir=1∨dir=2∨dir=3:=O
  all_goals simp[dX,dY,absI]
  all_goals (repeat' split)<;>omega
theorem sF {d:Dev}{x y:Int}(e:devB d=true) (D:0≤x) (E:x≤d.W-1) (h:0≤y) (B:y≤d.H-1):tOk d (y*d.W+x)=true:=by
  rw[fC]
  obtain⟨⟨G,J⟩,⟨K,M⟩, -, -⟩:=(dI d).1 e
  have U:0≤y*d.W:=Int.mul_nonneg h O
  have X:y*d.W≤(d.H-1)*d.W:=Int.mul_le_mul_of_nonneg_right B O
  have Y:(d.H-1)*d.W=d.W*d.H-d.W:=by rw[Int.sub_mul,Int.one_mul,Int.mul_comm]
  exact⟨e,O,O⟩
theorem oF (d:Dev) (t dir s:Int) (ht:tOk d t=true) (r0:0≤dir) (r1:dir≤3) (s0:0≤s) (s1:s≤6) (h:0≤tileStepI d t dir s) :
    tileStepI d (tileStepI d t dir s) ((dir+2) % 4) s=t∧distI d t (tileStepI d t dir s)=s∧tOk d (tileStepI d t dir s)=true:=by
  obtain⟨hv,t0,t1⟩:=(fC d t).1 ht
  obtain⟨x0,x1,y0,y1,et⟩:=oD hv t0 t1
  obtain⟨⟨a1,a2⟩,⟨b1,b2⟩, -, -⟩:=(dI d).1 hv
  have hr:inR dir 0 3=true:=gL r0 r1
  have hs:inR s 0 6=true:=gL s0 s1
  have e1:tileStepI d t dir s=stepI d t dir s:=if_pos ⟨ht,hr,hs⟩
  rw[e1] at h ⊢
  by_cases hin:inR (t % d.W+dX dir s) 0 (d.W-1)=true∧inR (t / d.W+dY dir s) 0 (d.H-1)=true
  · have e2 : stepI d t dir s = (t / d.W + dY dir s) * d.W + (t % d.W + dX dir s) := if_pos hin
    obtain⟨u0,u1⟩:=(dA _ _ _).1 hin.1
    obtain⟨v0,v1⟩:=(dA _ _ _).1 hin.2
    rw[e2]
    have hok:=sF hv u0 u1 v0 v1
    obtain⟨f1,f2⟩:=wI (W:=d.W) (x:=t % d.W+dX dir s) (y:=t / d.W+dY dir s) (by omega) u0 (by omega)
    obtain⟨g1,g2,g3⟩:=Kw dir s r0 r1
    refine⟨?_,?_,hok⟩
    · rw [tileStepI, if_pos ⟨hok, gL (by omega) (by omega), hs⟩, stepI, f1, f2, g1, g2]
      rw[if_pos ⟨gL (by omega) (by omega),gL (by omega) (by omega)⟩]
      rw[show t / d.W+dY dir s + -dY dir s=t / d.W by omega];omega
    · rw [distI, f1, f2]
      rw[show t % d.W-(t % d.W+dX dir s) = -dX dir s by omega,show t / d.W-(t / d.W+dY dir s) = -dY dir s by omega]
      have n:∀x,absI (-x)=absI x:=fun x=>by unfold absI;split<;>split<;>omega
      rw[n,n,g3];unfold absI;split<;>omega
  · have e2 : stepI d t dir s = -1 := if_neg hin
    omega
theorem iH (xs:List Int) (x:Int):(insI xs x).length≤xs.length+1:=by
  induction xs with
  | nil=>simp[insI]
  | cons y ys ih=>simp only[insI];split<;>(try split)<;>simp<;>omega
theorem kP (v:Value) (xs:List Int) (x:Int) (J:xs.length≤1000000) {w0:World}{l:List HP}(w:World) (D:Mem w0 (rI9 3 v xs::l) w) :
    Calls Tryz.prog 106 #[v,.int .i64 x] w fun e E=>∃B p',e=.returned B∧p'=rI9 3 B (insI xs x)∧Mem w0 (p'::l) E:=
  (wB v xs x w (cI (D.holds (rI9 3 v xs) mem_cons_self)) J).mono fun e E h=>by
    obtain⟨B,post,rfl,K,G⟩:=h
    rcases K with⟨rfl,rfl,M⟩|rfl
    · exact⟨B,_,rfl,rfl,by rw[M];exact D.step G.bel⟩
    · exact⟨B,_,rfl,rfl,(D.app G).sub (.cons_cons _ (.cons _ (.refl _)))⟩
def wireNodeI (d:Dev) (t dir k:Int):Int:=if 0≤stepI d t dir (1+k % 2) then wireN d t dir k else -1
theorem nL (d:Dev) (t dir k:Int) (e:tOk d t=true) (h:0≤dir) (B:dir≤3) (k0:0≤k) (jH:k≤d.T-1) (w:World) :
    Calls Tryz.prog 105 #[.agg #[.int .i64 d.W,.int .i64 d.H,.int .i64 d.T,.int .i64 d.R],.int .i64 t,.int .i64 dir,.int .i64 k] w (Ans w (.int .i64 (wireNodeI d t dir k))):=by
  unfold wireNodeI
  split
  · exact xJ d t dir k e h B k0 jH I w
  · exact zI d t dir k e h B k0 jH O w
theorem pX {d:Dev}{t dir s:Int}(hv:devB d=true) (h:¬stepI d t dir s<0):tOk d (stepI d t dir s)=true:=by
  unfold stepI at *
  split
  · rename_i hh
    exact sF hv ((dA _ _ _).1 hh.1).1 ((dA _ _ _).1 hh.1).2 ((dA _ _ _).1 hh.2).1 ((dA _ _ _).1 hh.2).2
  · rename_i hh;rw[if_neg hh] at h;omega
def pinS (d:Dev) (t r k:Int) (xs:List Int) (s:Nat):List Int:=
  if stepI d t ((r+2) % 4) ((s:Int)+1)<0 then xs else if 0≤wireNodeI d (stepI d t ((r+2) % 4) ((s:Int)+1)) r k then insI xs (wireNodeI d (stepI d t ((r+2) % 4) ((s:Int)+1)) r k) else xs
def pinK (d:Dev) (t r k:Int) (xs:List Int) (j:Nat):List Int:=(List.range j).foldl (pinS d t r k) xs
theorem lJ (d:Dev) (t r k:Int) (xs:List Int) (j:Nat):pinK d t r k xs (j+1)=pinS d t r k (pinK d t r k xs j) j:=by unfold pinK;rw[List.range_succ,List.foldl_append];rfl
def pinR (d:Dev) (t p r:Int) (xs:List Int) (j:Nat):List Int:=(List.range j).foldl (fun xs (k:Nat)=>if 1<d.T∧((k:Int)+p) % 2≠0 then xs else pinK d t r k xs (1+k % 2)) xs
theorem rT (d:Dev) (t p r:Int) (xs:List Int) (j:Nat):pinR d t p r xs (j+1)=if 1<d.T∧((j:Int)+p) % 2≠0 then pinR d t p r xs j else pinK d t r j (pinR d t p r xs j) (1+j % 2):=by unfold pinR;rw[List.range_succ,List.foldl_append];rfl
def pinO (d:Dev) (t p:Int) (j:Nat):List Int:=(List.range j).foldl (fun xs (r:Nat)=>pinR d t p r xs d.T.toNat) []
theorem Fl (d:Dev) (t p:Int) (j:Nat):pinO d t p (j+1)=pinR d t p j (pinO d t p j) d.T.toNat:=by unfold pinO;rw[List.range_succ,List.foldl_append];rfl
theorem mQ {d:Dev}{t r k:Int}{xs:List Int}{s:Nat}(h:stepI d t ((r+2) % 4) ((s:Int)+1)<0):pinS d t r k xs s=xs:=if_pos h
theorem oM {d:Dev}{t r k:Int}{xs:List Int}{s:Nat}(h:¬0≤wireNodeI d (stepI d t ((r+2) % 4) ((s:Int)+1)) r k):pinS d t r k xs s=xs:=by unfold pinS;simp only[if_neg h,ite_self]
theorem mP {d:Dev}{t r k:Int}{xs:List Int}{s:Nat}(h:0≤stepI d t ((r+2) % 4) ((s:Int)+1)) (e:0≤wireNodeI d (stepI d t ((r+2) % 4) ((s:Int)+1)) r k):pinS d t r k xs s=insI xs (wireNodeI d (stepI d t ((r+2) % 4) ((s:Int)+1)) r k):=by unfold pinS;rw[if_neg O,if_pos e]
theorem uG (d:Dev) (t p:Int) (w:World) (G:devB d=true) (t0:0≤t) (t1:t≤d.W*d.H-1) (p0:0≤p) (p1:p≤4) :
   Calls Tryz.prog 94 #[.agg #[.int .i64 d.W,.int .i64 d.H,.int .i64 d.T,.int .i64 d.R],.int .i64 t,.int .i64 p] w (Ret w fun J post=>post=[rI9 3 J (pinO d t p 4)]):=by
 obtain⟨-, -,⟨l1,l2⟩, -⟩:=(dI d).1 G
 refine aY (N:=59) (args:=[.agg #[jI d.W,jI d.H,jI d.T,jI d.R],jI t,jI p]) Tryz.func94 A A (dW ?_)
 refine cU A (cE A A) fun E=>go ?_
 refine nR 3 1 ?_
 refine fP (α:=Nat) (β:=Value) (γ:=List Int) [0,1,2,3,6] A (fun r v xs=>[rI9 3 v xs,boxE E #[jI d.W,jI d.H,jI d.T,jI d.R] 25]) (fun r v xs=>[(7,v),(8,jI (r:Int))]) (fun r v xs=>r≤4∧xs=pinO d t p r∧xs.length≤8*r) (fun r v xs=>4-r) 0 _ [] ⟨O,A,AI⟩ (bV A) (cZ A) fun r v xs U=>go ?_
 obtain⟨hr,hx,aa⟩:=U
 refine aW A A A A A A (fun h4=>go ?_) (fun h4=>go ?_)
 refine fP (α:=Nat) (β:=Value) (γ:=List Int) [0,1,2,3,6,8,14] A (fun k u e=>[rI9 3 u e,boxE E #[jI d.W,jI d.H,jI d.T,jI d.R] 25]) (fun k u e=>[(7,u),(9,jI (k:Int))]) (fun k u e=>(k:Int)≤d.T∧e=pinR d t p r xs k∧e.length≤xs.length+2*k) (fun k u e=>5-k) 0 _ xs ⟨O,A,AI⟩ (bV A) (cZ A) fun k u e X=>go ?_
 obtain⟨hk,M,ab⟩:=X
 refine aW A A A A A A (fun h6=>go ?_) (fun h6=>go ?_)
 refine fJ A A A A A A (fun h7=>go ?_) (fun h7=>go ?_)
 refine aN A (fT A A A AE) ?_
 refine jY A A A A A A (fun h8=>go ?_) (fun h8=>go ?_)
 exact aQ (k+1) _ _ ⟨O,by rw[rT,if_pos ⟨O,O⟩];exact M,O⟩ O (bV rfl) (cZ rfl)
 refine fP (α:=Nat) (β:=Value) (γ:=List Int) [0,1,2,3,6,8,9,14,20,32] A (fun j q zs=>[rI9 3 q zs,boxE E #[jI d.W,jI d.H,jI d.T,jI d.R] 25]) (fun j q zs=>[(7,q),(10,jI ((j:Int)+1))]) (fun j q zs=>j≤1+k % 2∧zs=pinK d t r k e j∧zs.length≤e.length+j) (fun j q zs=>3-j) 0 _ e ⟨O,A,AI⟩ (bV A) (cZ A) fun j q zs Y=>go ?_
 obtain⟨hj,B,Z⟩:=Y
 refine cM A (aF A A (fun w D=>aI (hH (jJ _ O O w)))) (iA A A A A A A (fun a0=>go ?_) (fun a0=>go ?_))
 refine aN A (fT A A A AE) (go ?_)
 refine cM A (aF A A (fun w D=>aI (iU d _ _ _ G t0 t1 O O O O w))) (go ?_)
 refine aW A A A A A A (fun a1=>go ?_) (fun a1=>go ?_)
 have h:=iH zs (wireNodeI d (stepI d t (((r:Int)+2) % 4) ((j:Int)+1)) r k)
 exact aQ (j+1) _ _ ⟨O,by rw[lJ,←B];first|exact(mQ O).symm|exact(oM O).symm|exact(mP O O).symm,O⟩ O (bV rfl) (cZ rfl)
 refine cM A (aF A A (fun w D=>aI (nL d _ _ _ (pX G O) O O O O w))) (go ?_)
 refine eK A A A A A A (fun a2=>go ?_) (fun a2=>go ?_)
 refine cR (R:=(fun J p'=>p'=rowE 3 1 J (insI zs (wireNodeI d (stepI d t (((r:Int)+2) % 4) ((j:Int)+1)) (r:Int) (k:Int))).length ((insI zs (wireNodeI d (stepI d t (((r:Int)+2) % 4) ((j:Int)+1)) (r:Int) (k:Int))).map (Value.int .i64)))) 0 A A A A A (fun l' w D=>kP _ zs _ O w D) fun a3 ac a4=>?_
 subst a4
 refine dO (l':=[rowE 3 1 a3 ((insI zs (wireNodeI d (stepI d t (((r:Int)+2) % 4) ((j:Int)+1)) (r:Int) (k:Int))).length) ((insI zs (wireNodeI d (stepI d t (((r:Int)+2) % 4) ((j:Int)+1)) (r:Int) (k:Int))).map (Value.int .i64)),boxE E #[jI d.W,jI d.H,jI d.T,jI d.R] 25]) A (go ?_)
 have h:=iH zs (wireNodeI d (stepI d t (((r:Int)+2) % 4) ((j:Int)+1)) r k)
 exact aQ (j+1) _ _ ⟨O,by rw[lJ,←B];first|exact(mQ O).symm|exact(oM O).symm|exact(mP O O).symm,O⟩ O (bV rfl) (cZ rfl)
 have h:=iH zs (wireNodeI d (stepI d t (((r:Int)+2) % 4) ((j:Int)+1)) r k)
 exact aQ (j+1) _ _ ⟨O,by rw[lJ,←B];first|exact(mQ O).symm|exact(oM O).symm|exact(mP O O).symm,O⟩ O (bV rfl) (cZ rfl)
 exact aQ (k+1) _ _ ⟨O,by rw[rT,if_neg O,←M,B];congr 1;omega,O⟩ O (bV rfl) (cZ rfl)
 refine fP (α:=Nat) (β:=Value) (γ:=List Int) [0,1,2,3,6,8,9,14,20,32] A (fun j q zs=>[rI9 3 q zs,boxE E #[jI d.W,jI d.H,jI d.T,jI d.R] 25]) (fun j q zs=>[(7,q),(10,jI ((j:Int)+1))]) (fun j q zs=>j≤1+k % 2∧zs=pinK d t r k e j∧zs.length≤e.length+j) (fun j q zs=>3-j) 0 _ e ⟨O,A,AI⟩ (bV A) (cZ A) fun j q zs K=>go ?_
 obtain⟨hj,B,Z⟩:=K
 refine cM A (aF A A (fun w D=>aI (hH (jJ _ O O w)))) (iA A A A A A A (fun a5=>go ?_) (fun a5=>go ?_))
 refine aN A (fT A A A AE) (go ?_)
 refine cM A (aF A A (fun w D=>aI (iU d _ _ _ G t0 t1 O O O O w))) (go ?_)
 refine aW A A A A A A (fun a6=>go ?_) (fun a6=>go ?_)
 have h:=iH zs (wireNodeI d (stepI d t (((r:Int)+2) % 4) ((j:Int)+1)) r k)
 exact aQ (j+1) _ _ ⟨O,by rw[lJ,←B];first|exact(mQ O).symm|exact(oM O).symm|exact(mP O O).symm,O⟩ O (bV rfl) (cZ rfl)
 refine cM A (aF A A (fun w D=>aI (nL d _ _ _ (pX G O) O O O O w))) (go ?_)
 refine eK A A A A A A (fun a7=>go ?_) (fun a7=>go ?_)
 refine cR (R:=(fun J p'=>p'=rowE 3 1 J (insI zs (wireNodeI d (stepI d t (((r:Int)+2) % 4) ((j:Int)+1)) (r:Int) (k:Int))).length ((insI zs (wireNodeI d (stepI d t (((r:Int)+2) % 4) ((j:Int)+1)) (r:Int) (k:Int))).map (Value.int .i64)))) 0 A A A A A (fun l' w D=>kP _ zs _ O w D) fun a8 ad a9=>?_
 subst a9
 refine dO (l':=[rowE 3 1 a8 ((insI zs (wireNodeI d (stepI d t (((r:Int)+2) % 4) ((j:Int)+1)) (r:Int) (k:Int))).length) ((insI zs (wireNodeI d (stepI d t (((r:Int)+2) % 4) ((j:Int)+1)) (r:Int) (k:Int))).map (Value.int .i64)),boxE E #[jI d.W,jI d.H,jI d.T,jI d.R] 25]) A (go ?_)
 have h:=iH zs (wireNodeI d (stepI d t (((r:Int)+2) % 4) ((j:Int)+1)) r k)
 exact aQ (j+1) _ _ ⟨O,by rw[lJ,←B];first|exact(mQ O).symm|exact(oM O).symm|exact(mP O O).symm,O⟩ O (bV rfl) (cZ rfl)
 have h:=iH zs (wireNodeI d (stepI d t (((r:Int)+2) % 4) ((j:Int)+1)) r k)
 exact aQ (j+1) _ _ ⟨O,by rw[lJ,←B];first|exact(mQ O).symm|exact(oM O).symm|exact(mP O O).symm,O⟩ O (bV rfl) (cZ rfl)
 exact aQ (k+1) _ _ ⟨O,by rw[rT,if_neg O,←M,B];congr 1;omega,O⟩ O (bV rfl) (cZ rfl)
 exact aQ (r+1) _ _ ⟨O,by rw[Fl,←hx,M];congr 1;omega,O⟩ O (bV rfl) (cZ rfl)
 exact bM (post:=[rI9 3 v xs]) A A (eA [0] A) (by rw[hx,show r=4 by omega])
open Go.RowKit
theorem Ek {a b c:Int}(h:inR a b c=false):a<b∨c<a:=by
  rcases Int.lt_or_le a b with h1|h1
  · exact .inl h1
  · rcases Int.lt_or_le c a with h2 | h2
    · exact .inr h2
    · rw[gL h1 h2] at h;cases h
def outPinI (d:Dev) (t p:Int):Int:=if tOk d t=true∧0≤p∧p≤outPinsI (kindI d t)-1 then t*perI d+5+p else -1
theorem iQ (d:Dev) (t:Int):1≤outPinsI (kindI d t)∧outPinsI (kindI d t)≤2:=by
  rcases fX d t with h|h|h<;>rw[h]<;>simp[outPinsI]
theorem lI {d:Dev}{t:Int}(e:devB d=true) (h:0≤t) (D:t≤d.W*d.H-1):0≤t*perI d∧t*perI d≤805:=by
  obtain⟨E,B⟩:=fR e
  obtain⟨G,J⟩:=hU e
  exact⟨Int.mul_nonneg h O,Int.le_trans (Int.mul_le_mul (show t≤35 by omega) B O O) O⟩
theorem pV {d:Dev}{t:Int}(e:devB d=true) (h:t≤d.W*d.H-1):t≤35:=by
  obtain⟨B,D⟩:=hU e;omega
theorem uJ (d:Dev) (t p:Int) (w:World) (Y : -1000≤p) (Z:p≤1000) :
   Calls Tryz.prog 68 #[.agg #[.int .i64 d.W,.int .i64 d.H,.int .i64 d.T,.int .i64 d.R],.int .i64 t,.int .i64 p] w (Ans w (.int .i64 (outPinI d t p))):=by
 refine aY (N:=28) (args:=[.agg #[jI d.W,jI d.H,jI d.T,jI d.R],jI t,jI p]) Tryz.func68 A A (dW ?_)
 refine cU A (cE A A) fun b1=>go ?_
 refine cM A (aF A A (fun w h=>aI (jX d _ w))) (bD (fun J=>go ?_) (fun J=>go ?_))
 obtain⟨B,D,e⟩:=(fC _ _).1 J
 have K:=iQ d t
 have M:=lI B D e
 have U:=pV B e
 refine cM A (aF A A (fun w h=>aI (iN d _ B O O w))) (cM A (aF A A (fun w h=>aI (hH (sG _ (fX d _) w)))) (go ?_))
 refine cM A (aF A A (fun w h=>aI (hH (cS _ _ _ w)))) ?_
 refine bD (fun E=>go ?_) (fun E=>go ?_)
 obtain⟨G,X⟩:=(dA _ _ _).1 E
 refine cM A (aF A A (fun w h=>aI (jN d B w))) (aN A (eZ A A A AE) (go ?_))
 exact aT A A (by unfold outPinI;rw[if_pos ⟨I,O,O⟩])
 have G:=Ek E
 exact aT A A (by unfold outPinI;rw[if_neg AJ])
 exact aT A A (by unfold outPinI;rw[if_neg AJ])
def outS (d:Dev) (t:Int) (xs:List Int) (p:Nat):List Int:=if 0≤outPinI d t p then insI xs (outPinI d t p) else xs
def outO (d:Dev) (t:Int) (j:Nat):List Int:=(List.range j).foldl (outS d t) []
theorem wR (d:Dev) (t:Int) (j:Nat):outO d t (j+1)=outS d t (outO d t j) j:=by unfold outO;rw[List.range_succ,List.foldl_append];rfl
def wireW (d:Dev) (t r:Int) (xs:List Int) (k:Int):List Int:=if 0≤stepI d t ((r+2) % 4) (1+k % 2) then insI xs (wireNodeI d (stepI d t ((r+2) % 4) (1+k % 2)) r k) else xs
def wireK (d:Dev) (t r:Int) (ks:List Int) (xs:List Int) (j:Nat):List Int:=(ks.take j).foldl (wireW d t r) xs
theorem tO (d:Dev) (t r:Int) (e xs:List Int) (j:Nat) (h:j<e.length):wireK d t r e xs (j+1)=wireW d t r (wireK d t r e xs j) (e.getD j 0):=by
  unfold wireK;rw[List.take_succ_eq_append_getElem h,List.foldl_append,getD_eq_getElem?_getD,List.getElem?_eq_getElem h];rfl
def wireR (d:Dev) (t dir track:Int) (xs:List Int) (r:Nat):List Int:=if (r:Int)=(dir+2) % 4 then xs else wireK d t r [track,(track+1) % d.T] xs 2
def wireO (d:Dev) (t dir track:Int) (j:Nat):List Int:=(List.range j).foldl (wireR d t dir track) (outO d t 2)
theorem tN (d:Dev) (t dir e:Int) (j:Nat):wireO d t dir e (j+1)=wireR d t dir e (wireO d t dir e j) j:=by unfold wireO;rw[List.range_succ,List.foldl_append];rfl
theorem Gs {a b T:Int}(e:0≤a∧a≤T-1) (h:0≤b∧b≤T-1) (j:Nat) (B:j<2):0≤[a,b].getD j 0∧[a,b].getD j 0≤T-1:=by
  rcases j with _|_|j
  · exact e
  · exact h
  · omega
theorem Ed {a T:Int}(e:1≤T):0≤a % T∧a % T≤T-1:=⟨Int.emod_nonneg _ O,by have:=Int.emod_lt_of_pos a (show 0<T by omega);omega⟩
theorem sT (d:Dev) (t dir e:Int) (w:World) (M:devB d=true) (t0:0≤t) (t1:t≤d.W*d.H-1) (r0:0≤dir) (r1:dir≤3) (k0:0≤e) (jH:e≤d.T-1) :
   Calls Tryz.prog 95 #[.agg #[.int .i64 d.W,.int .i64 d.H,.int .i64 d.T,.int .i64 d.R],.int .i64 t,.int .i64 dir,.int .i64 e] w (Ret w (fun E post=>post=[rI9 3 E (wireO d t dir e 4)])):=by
 obtain⟨-, -,⟨l1,l2⟩, -⟩:=(dI d).1 M
 have U:=Ed (a:=e+1) l1
 refine aY (N:=69) (args:=[.agg #[jI d.W,jI d.H,jI d.T,jI d.R],jI t,jI dir,jI e]) Tryz.func95 A A (dW ?_)
 refine cU A (cE A A) fun G=>go ?_
 refine nR 3 1 ?_
 refine fP (α:=Nat) (β:=Value) (γ:=List Int) [0,1,2,3,4,8] A (fun p v xs=>[rI9 3 v xs,boxE G #[jI d.W,jI d.H,jI d.T,jI d.R] 25]) (fun p v xs=>[(9,v),(10,jI (p:Int))]) (fun p v xs=>p≤2∧xs=outO d t p∧xs.length≤p) (fun p v xs=>3-p) 0 _ [] ⟨O,A,AI⟩ (bV A) (cZ A) fun p v xs X=>go ?_
 obtain⟨hp,Y,a6⟩:=X
 refine aW A A A A A A (fun h4=>go ?_) (fun h4=>go ?_)
 refine cM A (aF A A (fun w B=>aI (uJ d _ _ w O O))) (go ?_)
 refine eK A A A A A A (fun h5=>go ?_) (fun h5=>go ?_)
 refine cR (R:=(fun E p'=>p'=rI9 3 E (insI xs (outPinI d t (p:Int))))) 0 A A A A A (fun l' w B=>kP _ xs _ O w B) fun v6 p7 R8=>?_
 subst R8
 refine dO (l':=[rowE 3 1 v6 ((insI xs (outPinI d t (p:Int))).length) (mI (insI xs (outPinI d t (p:Int)))),boxE G #[jI d.W,jI d.H,jI d.T,jI d.R] 25]) A (go ?_)
 have D:=iH xs (outPinI d t (p:Int))
 exact aQ (p+1) _ _ ⟨O,by rw[wR,←Y];unfold outS;first|rw[if_pos I]|rw[if_neg O],O⟩ O (bV rfl) (cZ rfl)
 have D:=iH xs (outPinI d t (p:Int))
 exact aQ (p+1) _ _ ⟨O,by rw[wR,←Y];unfold outS;first|rw[if_pos I]|rw[if_neg O],O⟩ O (bV rfl) (cZ rfl)
 refine fP (α:=Nat) (β:=Value) (γ:=List Int) [0,1,2,3,4,8,10,17] rfl (fun r u h=>[rI9 3 u h,boxE G #[jI d.W,jI d.H,jI d.T,jI d.R] 25]) (fun r u h=>[(9,u),(12,jI (r:Int))]) (fun r u h=>r≤4∧h=wireO d t dir e r∧h.length≤2+2*r) (fun r u h=>5-r) 0 _ xs ⟨O,by rw[Y,show p=2 by omega];rfl,O⟩ (bV rfl) (cZ rfl) fun r u h Z=>go ?_
 obtain⟨hr,hy,a7⟩:=Z
 refine aW A A A A A A (fun a0=>go ?_) (fun a0=>go ?_)
 refine aN A (fT A A A AE) ?_
 refine bZ A A A A A A (fun a1=>go ?_) (fun a1=>go ?_)
 exact aQ (r+1) _ _ ⟨O,by rw[tN,←hy];unfold wireR;rw[if_pos O],O⟩ O (bV rfl) (cZ rfl)
 refine aN A (fT A A A AE) ?_
 refine cH A (aH (z:=jI 0) (s:=1) (cs:=(mI [e,(e+1) % d.T])) A z8 A V A F A) fun J=>go ?_
 refine fP (α:=Nat) (β:=Value) (γ:=List Int) [0,1,2,3,4,8,10,12,17,30,37,44,45] A (fun j q zs=>[rowE 3 1 (.slice (some ⟨J,0,none⟩) 2 2) 2 (mI [e,(e+1) % d.T]),rI9 3 q zs,boxE G #[jI d.W,jI d.H,jI d.T,jI d.R] 25]) (fun j q zs=>[(9,q),(46,jI (j:Int))]) (fun j q zs=>j≤2∧zs=wireK d t r [e,(e+1) % d.T] h j∧zs.length≤h.length+j) (fun j q zs=>3-j) 0 _ h ⟨O,A,AI⟩ (bV A) (cZ A) fun j q zs K=>go ?_
 obtain⟨hj,hz,a8⟩:=K
 refine aW A A A A A A (fun a2=>go ?_) (fun a2=>go ?_)
 refine aN A (cV 1 A A A A (aB 0 A)) (aN A (lD A A A (aB 0 A) (show _<2 by omega)) (go ?_))
 have a9:=Gs (T:=d.T) ⟨k0,jH⟩ U j O
 refine bL 8 [[],[],[],[2],[3],[],[5],[0,1,4,6]] [50,51,52,53,54,55,56,57] [.agg #[jI d.W,jI d.H,jI d.T,jI d.R],jI t,jI (r:Int),jI ((r:Int)+2),jI (((r:Int)+2) % 4),jI (([e,(e+1) % d.T]).getD j 0),jI (1+(([e,(e+1) % d.T]).getD j 0) % 2),jI (stepI d t (((r:Int)+2) % 4) (1+(([e,(e+1) % d.T]).getD j 0) % 2))] F A ?_ ?_
 exact⟨aJ,aJ,aJ,aJ,fL A (fT A A A AE) A,aJ,.inl ⟨A,aF A A (fun w B=>aI (hH (jJ _ O O w)))⟩,.inl ⟨A,aF A A (fun w B=>aI (iU d _ _ _ M O O O O O O w))⟩,trivial⟩
 simp only[drop_succ_cons,drop_zero]
 refine go ?_
 refine eK A A A A A A (fun a3=>go ?_) (fun a3=>go ?_)
 refine cM A (aF A A (fun w B=>aI (nL d _ _ _ (pX M O) O O O O w))) (cR (R:=(fun E p'=>p'=rowE 3 1 E (insI zs (wireNodeI d (stepI d t (((r:Int)+2) % 4) (1+(([e,(e+1) % d.T]).getD j 0) % 2)) (r:Int) (([e,(e+1) % d.T]).getD j 0))).length ((insI zs (wireNodeI d (stepI d t (((r:Int)+2) % 4) (1+(([e,(e+1) % d.T]).getD j 0) % 2)) (r:Int) (([e,(e+1) % d.T]).getD j 0))).map (Value.int .i64)))) 1 A A A A A (fun l' w B=>kP _ zs _ O w B) fun a4 aa a5=>?_)
 subst a5
 refine dO (l':=[rowE 3 1 (.slice (some ⟨J,0,none⟩) 2 2) 2 (mI [e,(e+1) % d.T]),rowE 3 1 a4 ((insI zs (wireNodeI d (stepI d t (((r:Int)+2) % 4) (1+(([e,(e+1) % d.T]).getD j 0) % 2)) (r:Int) (([e,(e+1) % d.T]).getD j 0))).length) ((insI zs (wireNodeI d (stepI d t (((r:Int)+2) % 4) (1+(([e,(e+1) % d.T]).getD j 0) % 2)) (r:Int) (([e,(e+1) % d.T]).getD j 0))).map (Value.int .i64)),boxE G #[jI d.W,jI d.H,jI d.T,jI d.R] 25]) A (go ?_)
 have D:=iH zs (wireNodeI d (stepI d t (((r:Int)+2) % 4) (1+[e,(e+1) % d.T].getD j 0 % 2)) r ([e,(e+1) % d.T].getD j 0))
 exact aQ (j+1) _ _ ⟨O,by rw[tO _ _ _ _ _ _ (show j < [e,(e+1) % d.T].length by simp;omega),←hz];unfold wireW;first|rw[if_pos I];done|rw[if_neg O],O⟩ O (bV rfl) (cZ rfl)
 have D:=iH zs (wireNodeI d (stepI d t (((r:Int)+2) % 4) (1+[e,(e+1) % d.T].getD j 0 % 2)) r ([e,(e+1) % d.T].getD j 0))
 exact aQ (j+1) _ _ ⟨O,by rw[tO _ _ _ _ _ _ (show j < [e,(e+1) % d.T].length by simp;omega),←hz];unfold wireW;first|rw[if_pos I];done|rw[if_neg O],O⟩ O (bV rfl) (cZ rfl)
 exact aQ (r+1) _ _ ⟨O,by rw[tN,←hy];unfold wireR;rw[if_neg O,hz];congr 1;omega,O⟩ O (bV rfl) (eA [1,0] rfl)
 exact bM (post:=[rI9 3 u h]) A A (eA [0] A) (by rw[hy,show r=4 by omega])
open Go.RowKit
def srcI (d:Dev) (n:Int):List Int:=if nodeOkI d n=true then (if n % perI d<5 then pinO d (n / perI d) (n % perI d) 4 else if n % perI d<7 then [] else wireO d (n / perI d) ((n % perI d-7) / d.T) ((n % perI d-7) % d.T) 4) else []
theorem fN {d:Dev}{n:Int}(h:nodeOkI d n=true):devB d=true∧0≤n∧n≤allI d-1:=by
  unfold nodeOkI at h
  rw[and_eq_true,and_eq_true] at h
  exact⟨h.1.1,(dA _ _ _).1 h.1.2⟩
theorem nJ (d:Dev) (n:Int) (w:World)  :
   Calls Tryz.prog 76 #[.agg #[.int .i64 d.W,.int .i64 d.H,.int .i64 d.T,.int .i64 d.R],.int .i64 n] w (Ret w (fun M post=>post=[rI9 3 M (srcI d n)])):=by
 refine aY (N:=44) (args:=[.agg #[jI d.W,jI d.H,jI d.T,jI d.R],jI n]) Tryz.func76 A A (dW ?_)
 refine cU A (cE A A) fun b1=>?_
 refine nR 3 1 ?_
 refine cM A (aF A A (fun w h=>aI (gO d _ w))) (bD (fun G=>go ?_) (fun G=>go ?_))
 obtain⟨e,B,J⟩:=fN G
 obtain⟨K,p1,p2,U,p4⟩:=iE e B J
 obtain⟨m1,m2⟩:=eM e
 refine cM A (aF A A (fun w h=>aI (gT d _ e B O w))) (go ?_)
 refine aW A A A A A A (fun X=>go ?_) (fun X=>go ?_)
 refine fF A A A (aF A A (fun w h=>uG d _ _ w e K O O O)) fun Y p6 Z=>?_
 subst Z
 refine go ?_
 exact bM (post:=[rowE 3 1 Y ((pinO d (n / perI d) (n % perI d) 4).length) (mI (pinO d (n / perI d) (n % perI d) 4))]) A A (eA [0] A) (by unfold srcI;(first|(rw[if_pos I];first|rw[if_pos O]|rw[if_neg O,if_pos O]|rw[if_neg O,if_neg O])|rw[if_neg (by simp[*])])<;>rfl)
 refine aW A A A A A A (fun h8=>go ?_) (fun h8=>go ?_)
 refine nR 3 1 ?_
 exact bM (post:=[rowE 3 1 (.slice none 0 0) 0 ([])]) A A (eA [0] A) (by unfold srcI;(first|(rw[if_pos I];first|rw[if_pos O]|rw[if_neg O,if_pos O]|rw[if_neg O,if_neg O])|rw[if_neg (by simp[*])])<;>rfl)
 refine cM A (aF A A (fun w h=>aI (sE d _ e B J O w))) (go ?_)
 obtain⟨g0,g1,g2,g3⟩:=kS e O U
 refine fF A A A (aF A A (fun w h=>sT d _ _ _ w e K O g0 g1 g2 g3)) fun D a0 E=>?_
 subst E
 refine go ?_
 exact bM (post:=[rowE 3 1 D ((wireO d (n / perI d) ((n % perI d-7) / d.T) ((n % perI d-7) % d.T) 4).length) (mI (wireO d (n / perI d) ((n % perI d-7) / d.T) ((n % perI d-7) % d.T) 4))]) A A (eA [0] A) (by unfold srcI;(first|(rw[if_pos I];first|rw[if_pos O]|rw[if_neg O,if_pos O]|rw[if_neg O,if_neg O])|rw[if_neg (by simp[*])])<;>rfl)
 refine nR 3 1 ?_
 exact bM (post:=[rowE 3 1 (.slice none 0 0) 0 ([])]) A A (eA [0] A) (by unfold srcI;(first|(rw[if_pos I];first|rw[if_pos O]|rw[if_neg O,if_pos O]|rw[if_neg O,if_neg O])|rw[if_neg (by simp[*])])<;>rfl)
open Go.RowKit
def cutR (P:List Int) (x:Int):Nat:=P.length-(P.reverse.takeWhile (fun y=>decide (x<y))).length
def insR (P:List Int) (x:Int):List Int:=P.take (cutR P x)++x::P.drop (cutR P x)
def sortR (xs:List Int):List Int:=xs.foldl insR []
theorem tw_app (a b:List Int) (f:Int→Bool) (h:∀y∈a,f y=true) (e:b=[]∨f (b.headD 0)=false):((a++b).takeWhile f).length=a.length:=by
  induction a with
  | nil=>
    rcases e with rfl|e
    · rfl
    · cases b with
      | nil=>rfl
      | cons y ys=>simp at e;simp[e]
  | cons y ys ih=>
    have:=h y AI
    simp only[List.cons_append,List.takeWhile_cons,this,if_true,length_cons]
    rw[ih (fun z B=>h z (by simp[B]))]
theorem Kx (P:List Int) (x:Int) (k:Nat) (hk:k≤P.length) (h1:∀j,k≤j→j<P.length→x<P.getD j 0) (h2:k=0∨P.getD (k-1) 0≤x):cutR P x=k:=by
  unfold cutR
  have e:P.reverse=(P.drop k).reverse++(P.take k).reverse:=by rw[←List.reverse_append,take_append_drop]
  rw[e,tw_app]
  · simp;omega
  · intro y hy
    rw[List.mem_reverse] at hy
    obtain⟨j,hj,rfl⟩:=List.mem_iff_getElem.1 hy
    rw[length_drop] at hj
    have:=h1 (k+j) (by omega) (by omega)
    rw[getD_eq_getElem?_getD,List.getElem?_eq_getElem (by omega)] at this
    simpa using this
  · rcases h2 with rfl | h2
    · left;simp
    · by_cases h0 : k = 0
      · subst h0;left;simp
      · right
        have hlt:k-1<P.length:=by omega
        rw[List.headD_eq_head?_getD,List.head?_reverse,List.getLast?_eq_getElem?,length_take,Nat.min_eq_left hk,List.getElem?_take,if_pos (by omega),←getD_eq_getElem?_getD]
        simpa using h2
theorem Eh (P:List Int) (x:Int) (k:Nat) (e:k≤P.length) (h:∀j,k≤j→j<P.length→x<P.getD j 0) (B:k=0∨P.getD (k-1) 0≤x):insR P x=P.take k++x::P.drop k:=by
  unfold insR;rw[Kx P x k e h B]
theorem Ib (P:List Int) (x:Int):(insR P x).length=P.length+1:=by
  unfold insR;rw[length_append,length_cons,length_take,length_drop]
  have:cutR P x≤P.length:=by unfold cutR;omega
  omega
theorem Cd (xs:List Int) (x:Int):sortR (xs++[x])=insR (sortR xs) x:=by unfold sortR;rw[List.foldl_append];rfl
theorem Bc:∀(xs e:List Int),(xs.foldl insR e).length=e.length+xs.length
  | [],e=>AI
  | x::xs,e=>by rw[List.foldl_cons,Bc xs,Ib,length_cons];omega
theorem mL (xs:List Int):(sortR xs).length=xs.length:=by unfold sortR;rw[Bc];simp
def midS (P:List Int) (x:Int) (rest:List Int) (k:Nat):List Int:=P.take k++x::P.drop k++rest
theorem Kg (P:List Int) (x:Int) (rest:List Int) (k:Nat) (e:k≤P.length):(midS P x rest k).getD k 0=x:=by
  unfold midS
  rw[List.append_assoc,getD_eq_getElem?_getD,List.getElem?_append_right (by simp;omega)]
  simp[Nat.min_eq_left e]
theorem Ai (P:List Int) (x:Int) (rest:List Int) (k:Nat) (e:k≤P.length) (h:0<k):(midS P x rest k).getD (k-1) 0=P.getD (k-1) 0:=by
  unfold midS
  rw[List.append_assoc,getD_eq_getElem?_getD,List.getElem?_append_left (by simp;omega),List.getElem?_take,if_pos O,←getD_eq_getElem?_getD]
theorem Fo (P:List Int) (x:Int) (rest:List Int) (k:Nat) (G:k+1≤P.length):((midS P x rest (k+1)).set (k+1) (P.getD k 0)).set k x=midS P x rest k:=by
  have h:k<P.length:=O
  have e:P.getD k 0=P[k]:=by rw[getD_eq_getElem?_getD,List.getElem?_eq_getElem h];rfl
  unfold midS
  have D:P.take (k+1)=P.take k++[P[k]]:=List.take_succ_eq_append_getElem h
  have E:P.drop k=P[k]::P.drop (k+1):=List.drop_eq_getElem_cons h
  have B:(P.take k).length=k:=by simp;omega
  rw[e,D,E]
  simp only[List.append_assoc,List.cons_append,nil_append]
  rw[List.set_append_right _ _ O,B,show k+1-k=1 by omega,List.set_cons_succ,List.set_cons_zero,List.set_append_right _ _ O,B,Nat.sub_self,List.set_cons_zero]
theorem Cr (xs:List Int) (i:Nat) (h:i<xs.length):sortR (xs.take i)++xs.drop i=midS (sortR (xs.take i)) (xs.getD i 0) (xs.drop (i+1)) i:=by
  have B:(sortR (xs.take i)).length=i:=by rw[mL];simp;omega
  have e:xs.getD i 0=xs[i]:=by rw[getD_eq_getElem?_getD,List.getElem?_eq_getElem h];rfl
  unfold midS
  rw[e,List.take_of_length_le (show(sortR (xs.take i)).length≤i by omega),List.drop_eq_nil_of_le (show(sortR (xs.take i)).length≤i by omega),List.drop_eq_getElem_cons h];simp
theorem Ah (xs:List Int) (i k:Nat) (h:i<xs.length) (E:k≤i) (B:∀j,k≤j→j<i→xs.getD i 0<(sortR (xs.take i)).getD j 0) (D:k=0∨(sortR (xs.take i)).getD (k-1) 0≤xs.getD i 0) :
    midS (sortR (xs.take i)) (xs.getD i 0) (xs.drop (i+1)) k=sortR (xs.take (i+1))++xs.drop (i+1):=by
  have G:(sortR (xs.take i)).length=i:=by rw[mL];simp;omega
  have e:xs.getD i 0=xs[i]:=by rw[getD_eq_getElem?_getD,List.getElem?_eq_getElem h];rfl
  rw[List.take_succ_eq_append_getElem h,Cd,←e,Eh _ _ k O (fun j a b=>B j a O) D]
  rfl
theorem Cc (xs:List Int):xs=sortR (xs.take (0+1))++xs.drop (0+1):=by
  cases xs with
  | nil=>rfl
  | cons x xs=>rfl
theorem sI (v:Value) (xs:List Int) (w:World) (hv:RdsW w v 1 xs.length (xs.map (Value.int .i64))) (hn:xs.length≤1000000) :
   Calls Tryz.prog 85 #[v] w (Ret w (fun v' post=>post=[rI9 3 v' (sortR xs)])):=by
 refine aY (N:=51) (args:=[v]) Tryz.func85 A A ?_
 refine kR _ [0] A (aG (bP (aS 1 A (fI [2,0] A (cP (bB (aG (bP ?_))))))))
 refine Ih A A A (bU (s:=1) A z8 F) ?_
 intro g1
 refine aS 1 A ?_
 refine bT (i:=0) (z:=jI 0) (bytes:=8) (n':=xs.length) (xs':=(mI xs)) A A A A z8 F F A A A (aE hv) (bI _) AD (Nat.zero_add _) (nil_append _) (fun _=>A) ?_
 intro D
 refine aS 1 A (fI [3,2,0] A (cP (bB (aG (aG (bP (aS 1 A (fI [4,3,2,0] A (cP (bB (bS ?_)))))))))))
 refine nX (α:=Nat) (β:=List Int) (fun i zs=>[rI9 3 D zs]) (fun i zs=>[(0,v),(2,.slice none 0 0),(3,D),(4,jI ((i:Int)+1))]) (fun i zs=>i≤xs.length∧zs.length=xs.length∧zs=sortR (xs.take (i+1))++xs.drop (i+1)) (fun i zs=>xs.length-i) 0 xs ⟨O,A,Cc xs⟩ (aD [4,3,2,0] A) (.cons_cons _ .slnil) ?_
 intro i zs M
 obtain⟨hi,U,hz⟩:=M
 refine aG (aG (bP (aS 2 A (kC A A A (Hh A z8 A (aB 0 A)) ?_))))
 refine aW A A A A A A (fun h4=>?_) (fun h4=>?_)
 refine fI [13,4,3,2,0] A (cP (bB (aR A (gP (bB (aG (bS (aG (bP (aS 2 A (fI [13,5,4,3,2,0] A (cP (bB ?_)))))))))))))
 refine bS ?_
 refine nX (α:=Nat) (β:=List Int) (fun k e=>[rI9 3 D e]) (fun k e=>[(0,v),(2,.slice none 0 0),(3,D),(4,jI ((i:Int)+1)),(5,jI (k:Int)),(13,.bool true)]) (fun k e=>k≤i+1∧e.length=xs.length∧e=midS (sortR (xs.take (i+1))) (xs.getD (i+1) 0) (xs.drop (i+1+1)) k∧∀j,k≤j→j<i+1→xs.getD (i+1) 0<(sortR (xs.take (i+1))).getD j 0) (fun k e=>k) (i+1) zs ⟨O,U,by rw[hz];exact Cr xs (i+1) O,fun j a b=>absurd a O⟩ (aD [13,5,4,3,2,0] rfl) (.cons_cons _ .slnil) ?_
 intro k e X
 obtain⟨hk,Y,G,E⟩:=X
 have a3:(sortR (xs.take (i+1))).length=i+1:=by rw[mL];simp;omega
 have Z:=G▸Kg (sortR (xs.take (i+1))) (xs.getD (i+1) 0) (xs.drop (i+1+1)) k O
 have J:((k:Int)-1).toNat=k-1:=O
 have a0:0<k→e.getD ((k:Int)-1).toNat 0=(sortR (xs.take (i+1))).getD (k-1) 0:=fun h=>by rw[J,G];exact Ai (sortR (xs.take (i+1))) (xs.getD (i+1) 0) (xs.drop (i+1+1)) k O h
 refine aG (aG ?_)
 rcases eq_false_or_eq_true (decide (0<(k:Int))) with B|B
 have K:0<(k:Int):=of_decide_eq_true B
 refine bL 14 [[],[0],[1],[2],[2],[2,3,4],[2,5],[2],[2],[2,8],[2,7,9],[2,10],[2,6,11],[2,12]] [17,18,19,20,21,22,23,24,25,26,27,28,29,30] [jI (k:Int),.bool true,.bool true,D,jI (k:Int),elP D ((k:Int).toNat*1),jI (e.getD k 0),D,jI (k:Int),jI ((k:Int)-1),elP D (((k:Int)-1).toNat*1),jI (e.getD (((k:Int)-1).toNat) 0),.bool (decide (e.getD k 0<e.getD (((k:Int)-1).toNat) 0)),.bool (decide (e.getD k 0<e.getD (((k:Int)-1).toNat) 0))] F A ?_ ?_
 refine⟨?_,?_,?_,?_,?_,?_,?_,?_,?_,?_,?_,?_,?_,?_,trivial⟩
 exact .inl ⟨A,lO (aU A) A⟩
 exact .inl ⟨A,zV (jA A A A A) B⟩
 iterate 3 (exact .inl ⟨A,lO (aU A) A⟩)
 exact .inl ⟨A,lO (kT (s:=1) A z8 F A A (aB 0 A) O O) A⟩
 exact .inl ⟨A,lO (aL (u:=jI (e.getD k 0)) A F A (aB 0 A) (cJ (show _<e.length by omega))) A⟩
 exact .inl ⟨A,lO (aU A) A⟩
 exact .inl ⟨A,lO (aU A) A⟩
 exact .inl ⟨A,lO (nQ A A A AE) A⟩
 exact .inl ⟨A,lO (kT (s:=1) A z8 F A A (aB 0 A) O O) A⟩
 exact .inl ⟨A,lO (aL (u:=jI (e.getD (((k:Int)-1).toNat) 0)) A F A (aB 0 A) (cJ (show _<e.length by omega))) A⟩
 exact .inl ⟨A,lO (jA A A A A) A⟩
 exact .inl ⟨A,lO (aU A) A⟩
 refine fI [30,13,5,4,3,2,0] A ?_
 simp only[drop_succ_cons,drop_zero]
 refine fI [30,13,5,4,3,2,0] A (cP (bB ?_))
 refine fO A (fun h7=>?_) (fun h7=>?_)
 have a1:e.getD k 0<e.getD (((k:Int)-1).toNat) 0:=of_decide_eq_true h7
 refine gP (bB (aG (bS (aG (bP (aS 2 A (kC A A A (kT (s:=1) A z8 F A A (aB 0 A) O O) (kC A A A (aL (u:=jI (e.getD k 0)) A F A (aB 0 A) (cJ (show _<e.length by omega))) (aS 1 A (fI [30,13,6,5,4,3,2,0] A (cP (bB (aG ?_)))))))))))))
 refine bP (aS 4 A (kC A A A (nQ A A A AE) (kC A A A (kT (s:=1) A z8 F A A (aB 0 A) O O) (kC A A A (aL (u:=jI (e.getD (((k:Int)-1).toNat) 0)) A F A (aB 0 A) (cJ (show _<e.length by omega))) (kC A A A (kT (s:=1) A z8 F A A (aB 0 A) O O) ?_)))))
 refine dS (i:=0) (n':=(e.set k (e.getD (((k:Int)-1).toNat) 0)).length) (xs':=((e.set k (e.getD (((k:Int)-1).toNat) 0)).map (Value.int .i64))) A A A F A A A A AA List.length_set.symm (eP _ _ _) A ?_
 refine fI [30,13,6,5,4,3,2,0] A (cP (bB (bP (aS 2 A (kC A A A (nQ A A A AE) (aS 1 A (kC A A A (kT (s:=1) A z8 F A A (aB 0 A) O AA) ?_)))))))
 refine dS (i:=0) (n':=((e.set k (e.getD (((k:Int)-1).toNat) 0)).set (((k:Int)-1).toNat) (e.getD k 0)).length) (xs':=(((e.set k (e.getD (((k:Int)-1).toNat) 0)).set (((k:Int)-1).toNat) (e.getD k 0)).map (Value.int .i64))) A A A F A A A A AA List.length_set.symm (eP _ _ _) A ?_
 refine fI [30,13,6,5,4,3,2,0] A (cP (cG (bB (bP (aS 1 A (kC A A A (nQ A A A AE) (aS 1 A (fI [30,13,6,5,4,3,2,0] A (cP ?_)))))))))
 exact bO (k-1) _ ⟨O,by simpa using Y,by rw[a0 O,Z,J];obtain⟨k,rfl⟩:∃q,k=q+1:=⟨k-1,O⟩;rw[G];exact Fo _ _ _ k O,fun j a b=>by by_cases a2:k≤j;(exact E j a2 b);(obtain rfl:j=k-1:=by omega);omega⟩ O (sk 0 rfl (sk 2 rfl (sk 3 rfl (sk 4 rfl (sk 5 (by rw[show((k-1:Nat):Int)=(k:Int)-1 by omega];rfl) (sk 13 rfl (aA _))))))) (.cons_cons _ .slnil)
 have a1:¬(e.getD k 0<e.getD (((k:Int)-1).toNat) 0):=of_decide_eq_false h7
 refine bW ?_
 refine dB (dB ?_)
 refine aO ?_
 refine cG (bB (bP (aS 1 A (kC A A A (pF A A A AE) (aS 1 A (fI [30,13,5,4,3,2,0] A (cP ?_)))))))
 exact bO (i+1) e ⟨O,O,by rw[G];exact Ah xs (i+1) k O O E (by first|(left;omega)|(right;omega))⟩ O (aD [4,3,2,0] rfl) (.cons_cons _ .slnil)
 have K:¬(0<(k:Int)):=of_decide_eq_false B
 refine bL 14 [[],[0],[1],[2],[2],[2],[2],[2],[2],[2],[2],[2],[2],[2,12]] [17,18,19,20,21,22,23,24,25,26,27,28,29,30] [jI (k:Int),.bool false,.bool false,undef,undef,undef,undef,undef,undef,undef,undef,undef,undef,.bool false] F A ?_ ?_
 refine⟨?_,?_,?_,?_,?_,?_,?_,?_,?_,?_,?_,?_,?_,?_,trivial⟩
 exact .inl ⟨A,lO (aU A) A⟩
 exact .inl ⟨A,zV (jA A A A A) B⟩
 exact .inl ⟨A,lO (aU A) A⟩
 iterate 10 (exact .inr ⟨A,A⟩)
 exact .inl ⟨A,lO (aU A) A⟩
 refine fI [30,13,5,4,3,2,0] A ?_
 simp only[drop_succ_cons,drop_zero]
 refine fI [30,13,5,4,3,2,0] A (cP (bB (aV A ?_)))
 refine bW ?_
 refine dB (dB ?_)
 refine aO ?_
 refine cG (bB (bP (aS 1 A (kC A A A (pF A A A AE) (aS 1 A (fI [30,13,5,4,3,2,0] A (cP ?_)))))))
 exact bO (i+1) e ⟨O,O,by rw[G];exact Ah xs (i+1) k O O E (by first|(left;omega)|(right;omega))⟩ O (aD [4,3,2,0] rfl) (.cons_cons _ .slnil)
 refine fI [13,4,3,2,0] A (cP (bB (aV A ?_)))
 refine bW ?_
 refine dB (dB ?_)
 refine aO ?_
 refine bB (aG (bP (aS 2 A (fI [13,4,3,2,0] A (cP (bB ?_))))))
 refine cW ?_
 exact bM (post:=[rI9 3 D zs]) A A (.cons_cons _ .slnil) (by rw[hz,List.take_of_length_le O,List.drop_eq_nil_of_le O,List.append_nil])
def blkOf (v:Value):Nat:=match v with | .pointer (some ⟨b,_,_⟩)=>b|_=>0
def xr (a:Int):Int:=if a % 2=0 then a+1 else a-1
theorem xr_ok {a m:Int}(h:LtOk a m):LtOk (xr a) m:=by unfold LtOk xr at *;split<;>omega
theorem bit_xr (v:List Int) {a:Int}(e:0≤a):bitL v (xr a)=1-bitL v a:=by
  unfold bitL xr
  by_cases h:a % 2=0
  · rw[if_pos h,if_neg O,if_pos h,show(a+1) / 2=a / 2 by omega]
  · rw[if_neg h,if_pos O,if_neg h,show(a-1) / 2=a / 2 by omega];omega
def withG (n:Nt) (gs:List An):Nt:={ n with gs:=gs }
structure AddOk (n:Nt) (gs gs':List An) (x:Int) (k:Nat) (f:(Int→Int)→Int):Prop where
  ext:∃t,gs'=gs++t∧t.length≤k
  ok:NtOk (withG n gs')
  lit:LtOk x (n.fst+gs'.length)
  val:∀(st:List Int) (inp:Int),st.length=n.ss.length→bitL (valsL (withG n gs') st inp) x=f (bitL (valsL (withG n gs) st inp))
theorem bits01 {n:Nt}{gs:List An}(h:NtOk (withG n gs)) {B:List Int}(G:B.length=n.ss.length) (e:Int) {l:Int}(E:LtOk l (n.fst+gs.length)):bitL (valsL (withG n gs) B e) l=0∨bitL (valsL (withG n gs) B e) l=1:=by
  have J:0≤n.ins:=h.i0
  have K:n.fst=1+n.ins+n.ss.length:=rfl
  have D:(valsL (withG n gs) B e).length=1+n.ins.toNat+B.length+gs.length:=oC _ B e _ (Nat.le_refl _)
  exact vS (v:=valsL (withG n gs) B e) (Lg h G e _ (Nat.le_refl _)) E.1 (by have M:=E.2;rw[D];omega)
abbrev fAnd (a b:Int):(Int→Int)→Int:=fun ev=>ev a*ev b
theorem add_zero {n:Nt}{gs:List An}{a b:Int}(h:NtOk (withG n gs)) (ha:LtOk a (n.fst+gs.length)) (hb:LtOk b (n.fst+gs.length)) (hc:a=0∨b=0∨xr a=b):AddOk n gs gs 0 1 (fAnd a b):=by
  have hi0:0≤n.ins:=h.i0
  have hf:n.fst=1+n.ins+n.ss.length:=rfl
  have h0:∀(st:List Int) (inp:Int),bitL (valsL (withG n gs) st inp) 0=0:=fun st inp=>by unfold bitL;rw[if_pos (by decide)];exact val0 (n:=withG n gs) st inp
  refine⟨⟨[],by simp,by simp⟩,h,⟨by omega,by omega⟩,fun st inp hs=>?_⟩
  rw[h0]
  show 0=_*_
  rcases hc with rfl|rfl|rfl
  · rw[h0,Int.zero_mul]
  · rw[h0,Int.mul_zero]
  · rw [bit_xr _ ha.1]
    rcases bits01 h hs inp ha with e|e<;>rw[e]<;>decide
open Go.RowKit
theorem yP {N:Nat}{w0:World}{l:List HP}{env:List (Nat×Value)}{Q:Post}{h:Exit}{i e s n:Nat}{v:Value}{xs:List Value}(D:l[i]? = some (rowE e s v n xs)) (k:v.oneCell'=true→HQ N w0 l env h Q):HQ N w0 l env h Q:=fun a w B=>k (cI (B.mem.holds _ (cT D))).one a w B
def AnsOk (f:Int) (gs:List An):Prop:=∀k,k<gs.length→LtOk (gs.getD k an0).a (f+k)∧LtOk (gs.getD k an0).b (f+k)
theorem Fa {f:Int}{gs:List An}{a b:Int}(h:AnsOk f gs) (B:LtOk a (f+gs.length)) (D:LtOk b (f+gs.length)):AnsOk f (gs++[An.mk a b]):=fun k E=>by
  rw[length_append,length_singleton] at E
  by_cases e:k<gs.length
  · rw[gM e];exact h k e
  · rw[hC O,show k-gs.length=0 by omega,show k=gs.length by omega];exact⟨B,D⟩
def SqsOk (m:Int) (ss:List Sq):Prop:=∀s∈ss,SqOk s∧∀x∈s.xs,LtOk x m
theorem Dt {m:Int}{B:List Sq}{s:Sq}(h:SqsOk m B) (D:SqOk s) (E:∀x∈s.xs,LtOk x m):SqsOk m (B++[s]):=fun r e=>by
  rcases List.mem_append.1 e with e|e
  · exact h r e
  · rw[mem_singleton] at e;subst e;exact⟨D,E⟩
def OsOk (m:Int) (os:List Int):Prop:=∀x∈os,LtOk x m
theorem os_app {m:Int}{os:List Int}{x:Int}(h:OsOk m os) (B:LtOk x m):OsOk m (os++[x]):=fun r e=>by
  rcases List.mem_append.1 e with e|e
  · exact h r e
  · rw[mem_singleton] at e;subst e;exact B
theorem vK {w0:World}{ps l:List HP}{p:HP}:Conv w0 (bigE ps::p::l) (bigE (ps++[p])::l):=fun w e=>by
  have h:Mem w0 (ps++(p::l)) w:=e.unbig
  have B:Mem w0 ((ps++[p])++l) w:=by simpa using h
  exact B.big
theorem nt_mk {e m f:Int}{sv av ov:Value}{h:List Sq}{gs:List An}{os:List Int}(E:0≤e) (G:e≤20) (J:h.length≤12) (K:gs.length≤300) (M:os.length≤16) (D:SqsOk m h) (U:AnsOk f gs) (X:OsOk m os)
    (Y:f=1+e+h.length) (Z:m=1+e+h.length+gs.length):NtOk (Nt.mk e sv av ov h gs os):=by
  subst Y Z
  exact⟨E,G,J,K,M,fun s B=>(D s B).1,fun s B=>(D s B).2,U,X⟩
theorem yM (g:Nat) (a:Option Addr) (B D:Nat) (z:List Int) (q1 q2 q3:Int) (w0:World) (l:List HP) (w:World) (d5:Mem w0 (curE g a B D::l) w) (hb:BRow .u8 w0 a B D z) (ds:1≤q1∧q1≤6) (dt:0≤q2∧q2≤4) (du:0≤q3∧q3≤30) :
   Calls Tryz.prog 108 #[.pointer (some ⟨g,0,none⟩),.int .i64 q1,.int .i64 q2,.int .i64 q3] w (fun e_ w_=>∃Z E,e_=.returned Z∧(fun u_ E=>∃n:Nt,u_=n.agg∧E=bigE [curE g a B D,ntE n]∧(n.sv.oneCell'=true∧n.av.oneCell'=true∧n.ov.oneCell'=true)∧NtOk n∧n.ins≤q1∧(n.ss.length:Int)≤q2∧(n.gs.length:Int)≤q3∧1≤n.os.length) Z E∧Mem w0 (E::l) w_):=by
 refine gE (N:=131) (args:=[pI g,jI q1,jI q2,jI q3]) Tryz.func108 A A d5 (dW ?_)
 refine cU A (bY (z:=.agg #[jI 0,.slice none 0 0,.slice none 0 0,.slice none 0 0]) A A) fun b1=>go ?_
 refine cR (R:=(fun u_ E=>(∃M:Int,u_=jI M∧0≤M∧M<q1)∧E=curE g a B D)) 1 A A A A A (fun l' w hm=>dT g a B D z q1 _ _ _ hm hb AE) fun v2 p3 R4=>?_
 obtain⟨⟨K,rfl,af,dv⟩,rfl⟩:=R4
 refine dO (l':=(eB9 b1::curE g a B D::l)) A (go ?_)
 refine aN A (dG (cs:=#[jI (1+K),.slice none 0 0,.slice none 0 0,.slice none 0 0]) A A A) ?_
 refine cU A (bY (z:=.agg #[jI 0,.slice none 0 0,.slice none 0 0,.slice none 0 0]) A A) fun b5=>?_
 refine cA (cs':=#[jI (1+K),.slice none 0 0,.slice none 0 0,.slice none 0 0]) (i:=0) (off:=0) (us:=[jI (1+K),.slice none 0 0,.slice none 0 0,.slice none 0 0]) A A A A A A A (aC A (aC A (aC A (aC A bH)))) A A A (go ?_)
 refine cR (R:=(fun u_ E=>(∃M:Int,u_=jI M∧0≤M∧M<q2+1)∧E=curE g a B D)) 2 A A A A A (fun l' w hm=>dT g a B D z (q2+1) _ _ _ hm hb AE) fun v6 p7 R8=>?_
 obtain⟨⟨Y,rfl,dw,dx⟩,rfl⟩:=R8
 refine dO (l':=(boxE b5 #[jI (1+K),.slice none 0 0,.slice none 0 0,.slice none 0 0] 125::eB9 b1::curE g a B D::l)) A (go ?_)
 refine cR (R:=(fun u_ E=>(∃M:Int,u_=jI M∧0≤M∧M<q3+1)∧E=curE g a B D)) 2 A A A A A (fun l' w hm=>dT g a B D z (q3+1) _ _ _ hm hb AE) fun v9 dy d6=>?_
 obtain⟨⟨G,rfl,dl,dm⟩,rfl⟩:=d6
 refine dO (l':=(boxE b5 #[jI (1+K),.slice none 0 0,.slice none 0 0,.slice none 0 0] 125::eB9 b1::curE g a B D::l)) A (go ?_)
 refine fK (rowE 3 1 (.slice none 0 0) 0 ([])::boxE b5 #[jI (1+K),.slice none 0 0,.slice none 0 0,.slice none 0 0] 125::eB9 b1::curE g a B D::l) (fun w hm=>hm.nilRow 3 1) ?_
 refine fK (rowE 145 2 (.slice none 0 0) 0 ([])::rowE 3 1 (.slice none 0 0) 0 ([])::boxE b5 #[jI (1+K),.slice none 0 0,.slice none 0 0,.slice none 0 0] 125::eB9 b1::curE g a B D::l) (fun w hm=>hm.nilRow 145 2) ?_
 refine fK (rowE 148 3 (.slice none 0 0) 0 ([])::rowE 145 2 (.slice none 0 0) 0 ([])::rowE 3 1 (.slice none 0 0) 0 ([])::boxE b5 #[jI (1+K),.slice none 0 0,.slice none 0 0,.slice none 0 0] 125::eB9 b1::curE g a B D::l) (fun w hm=>hm.nilRow 148 3) ?_
 refine fK _ hF ?_
 refine fP (α:=Nat) (β:=Value) (γ:=List An) [0,1,2,3,8,9,10,11,12] A (fun i u gs=>(bigE ([]:List HP)::rowE 148 3 (.slice none 0 0) 0 ([])::rS9 145 2 u gs anC::rowE 3 1 (.slice none 0 0) 0 ([])::boxE b5 #[jI (1+K),.slice none 0 0,u,.slice none 0 0] 125::eB9 b1::curE g a B D::l)) (fun i u gs=>[(13,jI (i:Int))]) (fun i u gs=>(i:Int)≤G∧gs.length=i∧AnsOk ((1+(1+K))+Y) gs) (fun i u gs=>G.toNat-i) 0 _ [] ⟨O,A,fun k hk=>absurd hk AI⟩ (bV A) (.refl _) fun i u gs ci=>go ?_
 obtain⟨hi,dz,cj⟩:=ci
 refine aW A A A A A A (fun d7=>go ?_) (fun d7=>go ?_)
 refine aN A (eZ A A A AE) (go ?_)
 refine aN A (xV A A A) ?_
 refine cR (R:=(fun u_ E=>(∃M:Int,u_=jI M∧0≤M∧M<min ((2*(((1+(1+K))+Y)+(i:Int)))-1) 14)∧E=curE g a B D)) 6 A A A A A (fun l' w hm=>dT g a B D z (min ((2*(((1+(1+K))+Y)+(i:Int)))-1) 14) _ _ _ hm hb AE) fun ea eb d8=>?_
 obtain⟨⟨ag,rfl,dn,dp⟩,rfl⟩:=d8
 refine dO (l':=(bigE ([]:List HP)::rowE 148 3 (.slice none 0 0) 0 ([])::rS9 145 2 u gs anC::rowE 3 1 (.slice none 0 0) 0 ([])::boxE b5 #[jI (1+K),.slice none 0 0,u,.slice none 0 0] 125::eB9 b1::curE g a B D::l)) A (go ?_)
 refine jF 7 [5,4,3,2,1,0,6] A A V ?_
 refine kY (l:=(bigE ([]:List HP)::rowE 148 3 (.slice none 0 0) 0 ([])::rS9 145 2 u gs anC::rowE 3 1 (.slice none 0 0) 0 ([])::boxE b5 #[jI (1+K),.slice none 0 0,u,.slice none 0 0] 125::eB9 b1::l)) A 8 [0,1,2,3,4,5,6,7] (List.take 8 _) (List.drop 8 _) [[],[0],[],[],[],[3,4],[2,5],[5,6]] [54,55,56,57,58,59,60,61] (fun i_ a4 Z E=>match i_ with|0=>Z=.pointer (some ⟨b5,0+2,none⟩)∧E=[]|1=>Z=u∧E=[]|2=>Z=jI (((2*(((1+(1+K))+Y)+(i:Int)))-1)-ag)∧E=[]|3=>Z=pI g∧E=[]|4=>Z=jI (2*(((1+(1+K))+Y)+(i:Int)))∧E=[]|5=>(∃a1,E=[a1]∧(fun u_ E=>(∃M:Int,u_=jI M∧0≤M∧M<2*(((1+(1+K))+Y)+(i:Int)))∧E=curE g a B D) Z a1)|6=>Z=.agg #[jI (((2*(((1+(1+K))+Y)+(i:Int)))-1)-ag),jI (intOf_o (gV9 a4 1))]∧E=[]|7=>IsRow 145 2 1 (mI [((2*(((1+(1+K))+Y)+(i:Int)))-1)-ag,(intOf_o (gV9 a4 0))]) Z E|_=>True) [[],[0],[],[],[],[3,4],[2,5],[5,6]] [none,none,none,none,none,some 11,none,none] [curE g a B D] [0,1,2,3,4,5,6,7] 11 (take_append_drop 8 _).symm F F F A A ?_ ?_
 refine⟨?_,?_,?_,?_,?_,?_,?_,?_,trivial⟩
 intro vf U J e
 refine kB [] [] A (aZ (aD [9] A) ?_)
 exact aK (fY 2 A A A)
 intro vf U J e
 have e0:=e 0 V
 refine kB [0] [0] A (bC (aX 54 e0.1 (aA _)) z9 ?_)
 exact aK (bJ A A A (bA 4 A A))
 intro vf U J e
 refine kB [] [] A (aZ (aD [15] A) ?_)
 exact aK (aU A)
 intro vf U J e
 refine kB [] [] A (aZ (aD [0] A) ?_)
 exact aK (aU A)
 intro vf U J e
 refine kB [] [] A (aZ (aD [14] A) ?_)
 exact aK (aU A)
 intro vf U J e
 have e3:=e 3 V
 have e4:=e 4 V
 refine Or.inl ⟨A,?_⟩
 show RunM _ _ _ (U 11) (([3,4]:List Nat).flatMap U++_) (envOf _ vf [3,4]++_) _ _
 rw[J]
 exact eJ (aX 57 e3.1 (aX 58 e4.1 (aA _))) (by simp only[e3.2,e4.2,fS]<;>rfl) (gX (R:=(fun u_ E=>(∃M:Int,u_=jI M∧0≤M∧M<2*(((1+(1+K))+Y)+(i:Int)))∧E=curE g a B D)) A A (fun L w hX hm=>dT g a B D z (2*(((1+(1+K))+Y)+(i:Int))) _ _ _ hm hb AE))
 intro vf U J e
 have e2:=e 2 V
 obtain⟨ck,bi,ay⟩:=e 5 V
 obtain⟨cl,a9⟩:=dU (vf 5)
 rw[a9] at ay
 obtain⟨⟨b6,rfl,c2,c3⟩,rfl⟩:=ay
 refine kB [2,5] [2,5] A (bQ (aX 56 e2.1 (aX 59 a9 (aA _))) (by simp only[bi,a9,e2.2,fS]<;>rfl) ?_)
 exact dM (aK (dG (cs:=#[jI (((2*(((1+(1+K))+Y)+(i:Int)))-1)-ag),jI b6]) A A A)) (fun _ _ h=>⟨h.1.trans (by show _=(.agg #[jI (((2*(((1+(1+K))+Y)+(i:Int)))-1)-ag),jI (intOf_o (vf 5))]:Value);first|(rw[a9];done)|(rw[a9];rfl)),h.2⟩)
 intro vf U J e
 obtain⟨ck,bi,ay⟩:=e 5 V
 obtain⟨cl,a9⟩:=dU (vf 5)
 rw[a9] at ay
 obtain⟨⟨b6,rfl,c2,c3⟩,rfl⟩:=ay
 have e6:(vf 6)=.agg #[jI (((2*(((1+(1+K))+Y)+(i:Int)))-1)-ag),jI (intOf_o (vf 5))]∧(U 6)=[]:=e 6 V
 rw[a9] at e6
 refine kB [5,6] [5,6] A (bQ (aX 60 e6.1 (aA _)) (by simp only[bi,a9,e6.2,fS]<;>rfl) ?_)
 exact dM (aH (z:=.agg #[jI 0,jI 0]) (s:=2) (cs:=(mI [((2*(((1+(1+K))+Y)+(i:Int)))-1)-ag,b6])) A Tryz.underlying123 A V A F A) (fun Z E h=>by show IsRow 145 2 1 (mI [((2*(((1+(1+K))+Y)+(i:Int)))-1)-ag,(intOf_o (vf 5))]) Z E;rw[a9];exact h)
 intro vf U J e
 have e1:=e 1 V
 obtain⟨ck,bi,ay⟩:=e 5 V
 obtain⟨cl,a9⟩:=dU (vf 5)
 rw[a9] at ay
 obtain⟨⟨b6,rfl,c2,c3⟩,rfl⟩:=ay
 have e7:IsRow 145 2 1 (mI [((2*(((1+(1+K))+Y)+(i:Int)))-1)-ag,(intOf_o (vf 5))]) (vf 7) (U 7):=e 7 V
 rw[a9] at e7
 obtain⟨ed,a5,b7⟩:=e7
 have q0:=e 0 V
 have q1:=e 1 V
 have q2:=e 2 V
 have q3:=e 3 V
 have q4:=e 4 V
 have q6:=e 6 V
 refine cL (bE [39,15,14,13,12,11,10,9,8,3,2,1,0] _ (aX 55 e1.1 (aX 61 a5 (aA _))) A) (by simp only[bi,a9,b7,a5,q0.2,q1.2,q2.2,q3.2,q4.2,q6.2,fS]<;>rfl) ?_
 simp only[drop_succ_cons,drop_zero]
 refine bT (i:=4) (z:=.agg #[jI 0,jI 0]) (bytes:=16) A A A A Tryz.underlying123 F A A A A (aB 1 A) (bI _) AC (bK gs [(An.mk (((2*(((1+(1+K))+Y)+(i:Int)))-1)-ag) b6)]) (dP anC gs (An.mk (((2*(((1+(1+K))+Y)+(i:Int)))-1)-ag) b6) _ A) (fun _=>A) fun cm=>go ?_
 refine eE (i:=4) A (fun cn=>?_)
 refine gB (i:=6) (cs':=#[jI (1+K),.slice none 0 0,cm,.slice none 0 0]) A A A A A A cn A A A A (go ?_)
 refine bN 8 [0,7,6,5,4,3,2] A A V ?_
 exact aQ (i+1) cm (gs++[(An.mk (((2*(((1+(1+K))+Y)+(i:Int)))-1)-ag) b6)]) ⟨O,by simp;omega,Fa cj (by unfold LtOk;omega) (by unfold LtOk;omega)⟩ O (bV A) (.refl _)
 refine aN A (eZ A A A AE) (go ?_)
 refine fP (α:=Nat) (β:=Value) (γ:=List Sq) [0,1,2,3,8,9,10,11,12,16,39] A (fun i uq ss=>(bigE (ss.map sqPart)::rS9 148 3 uq ss sqC::rS9 145 2 u gs anC::rowE 3 1 (.slice none 0 0) 0 ([])::boxE b5 #[jI (1+K),uq,u,.slice none 0 0] 125::eB9 b1::curE g a B D::l)) (fun i uq ss=>[(17,jI (i:Int))]) (fun i uq ss=>(i:Int)≤Y∧ss.length=i∧SqsOk (((1+(1+K))+Y)+G) ss) (fun i uq ss=>Y.toNat-i) 0 _ [] ⟨O,A,fun k hk=>absurd hk AI⟩ (bV A) (.refl _) fun i uq ss co=>go ?_
 obtain⟨ee,ef,c8⟩:=co
 refine aW A A A A A A (fun d9=>go ?_) (fun d9=>go ?_)
 refine cR (R:=(fun u_ E=>(∃b:Bool,u_=.bool b)∧E=curE g a B D)) 6 A A A A A (fun l' w hm=>qL hm hb (6) O O) fun eg eh da=>?_
 obtain⟨⟨ei,rfl⟩,rfl⟩:=da
 refine dO (l':=(bigE (ss.map sqPart)::rS9 148 3 uq ss sqC::rS9 145 2 u gs anC::rowE 3 1 (.slice none 0 0) 0 ([])::boxE b5 #[jI (1+K),uq,u,.slice none 0 0] 125::eB9 b1::curE g a B D::l)) A ?_
 refine bD (fun db=>go ?_) (fun db=>go ?_)
 refine jF 7 [5,4,3,2,1,0,6] A A V ?_
 refine kY (l:=(bigE (ss.map sqPart)::rS9 148 3 uq ss sqC::rS9 145 2 u gs anC::rowE 3 1 (.slice none 0 0) 0 ([])::boxE b5 #[jI (1+K),uq,u,.slice none 0 0] 125::eB9 b1::l)) A 19 [0,1,2,3,4,5,6,7,8,9,10,11,12,13,14,15,16,17,18] (List.take 19 _) (List.drop 19 _) [[],[0],[],[2],[],[],[3,4,5],[],[],[6,7,8],[],[],[9,10,11],[],[],[12,13,14],[6,9,12,15],[3,6,9,12,15,16],[3,6,9,12,15,16,17]] [75,76,77,78,79,80,81,82,83,84,85,86,87,88,89,90,91,92,93] (fun i_ a4 Z E=>match i_ with|0=>Z=.pointer (some ⟨b5,0+1,none⟩)∧E=[]|1=>Z=uq∧E=[]|2=>Z=pI g∧E=[]|3=>(∃a1,E=[a1]∧(fun u_ E=>(∃M:Int,u_=jI M∧0≤M∧M<32)∧E=curE g a B D) Z a1)|4=>Z=pI g∧E=[]|5=>Z=jI (2*(((1+(1+K))+Y)+G))∧E=[]|6=>(∃a1,E=[a1]∧(fun u_ E=>(∃M:Int,u_=jI M∧0≤M∧M<2*(((1+(1+K))+Y)+G))∧E=curE g a B D) Z a1)|7=>Z=pI g∧E=[]|8=>Z=jI (2*(((1+(1+K))+Y)+G))∧E=[]|9=>(∃a1,E=[a1]∧(fun u_ E=>(∃M:Int,u_=jI M∧0≤M∧M<2*(((1+(1+K))+Y)+G))∧E=curE g a B D) Z a1)|10=>Z=pI g∧E=[]|11=>Z=jI (2*(((1+(1+K))+Y)+G))∧E=[]|12=>(∃a1,E=[a1]∧(fun u_ E=>(∃M:Int,u_=jI M∧0≤M∧M<2*(((1+(1+K))+Y)+G))∧E=curE g a B D) Z a1)|13=>Z=pI g∧E=[]|14=>Z=jI (2*(((1+(1+K))+Y)+G))∧E=[]|15=>(∃a1,E=[a1]∧(fun u_ E=>(∃M:Int,u_=jI M∧0≤M∧M<2*(((1+(1+K))+Y)+G))∧E=curE g a B D) Z a1)|16=>IsRow 3 1 4 (mI [(intOf_o (gV9 a4 0)),(intOf_o (gV9 a4 1)),(intOf_o (gV9 a4 2)),(intOf_o (gV9 a4 3))]) Z E|17=>Z=.agg #[jI 1,jI (intOf_o (gV9 a4 0)),(gV9 a4 5)]∧E=[]|18=>IsRow 148 3 1 ([jI 1,jI (intOf_o (gV9 a4 0)),(gV9 a4 5)]) Z E|_=>True) [[],[0],[],[2],[],[],[4,5],[],[],[7,8],[],[],[10,11],[],[],[13,14],[15],[15,16],[15,16,17]] [none,none,none,some 22,none,none,some 3,none,none,some 6,none,none,some 9,none,none,some 12,none,none,none] [curE g a B D] [0,1,2,4,5,7,8,10,11,13,14,15,16,17,18] 22 (take_append_drop 19 _).symm F F F A A ?_ ?_
 refine⟨?_,?_,?_,?_,?_,?_,?_,?_,?_,?_,?_,?_,?_,?_,?_,?_,?_,?_,?_,trivial⟩
 intro vf U J e
 refine kB [] [] A (aZ (aD [9] A) ?_)
 exact aK (fY 1 A A A)
 intro vf U J e
 have e0:=e 0 V
 refine kB [0] [0] A (bC (aX 75 e0.1 (aA _)) z9 ?_)
 exact aK (bJ A A A (bA 4 A A))
 intro vf U J e
 refine kB [] [] A (aZ (aD [0] A) ?_)
 exact aK (aU A)
 intro vf U J e
 have e2:=e 2 V
 refine Or.inl ⟨A,?_⟩
 show RunM _ _ _ (U 22) (([2]:List Nat).flatMap U++_) (envOf _ vf [2]++_) _ _
 rw[J]
 exact eJ (aX 77 e2.1 (aA _)) (by simp only[e2.2,fS]<;>rfl) (gX (R:=(fun u_ E=>(∃M:Int,u_=jI M∧0≤M∧M<32)∧E=curE g a B D)) A A (fun L w hX hm=>dT g a B D z 32 _ _ _ hm hb AE))
 intro vf U J e
 refine kB [] [] A (aZ (aD [0] A) ?_)
 exact aK (aU A)
 intro vf U J e
 refine kB [] [] A (aZ (aD [16] A) ?_)
 exact aK (aU A)
 intro vf U J e
 obtain⟨c9,ax,aj⟩:=e 3 V
 obtain⟨ca,a0⟩:=dU (vf 3)
 rw[a0] at aj
 obtain⟨⟨ah,rfl,bj,bk⟩,rfl⟩:=aj
 have e4:=e 4 V
 have e5:=e 5 V
 refine Or.inl ⟨A,?_⟩
 show RunM _ _ _ (U 3) (([4,5]:List Nat).flatMap U++_) (envOf _ vf [3,4,5]++_) _ _
 rw[ax]
 exact eJ (aX 79 e4.1 (aX 80 e5.1 (aA _))) (by simp only[e4.2,e5.2,fS]<;>rfl) (gX (R:=(fun u_ E=>(∃M:Int,u_=jI M∧0≤M∧M<2*(((1+(1+K))+Y)+G))∧E=curE g a B D)) A A (fun L w hX hm=>dT g a B D z (2*(((1+(1+K))+Y)+G)) _ _ _ hm hb AE))
 intro vf U J e
 refine kB [] [] A (aZ (aD [0] A) ?_)
 exact aK (aU A)
 intro vf U J e
 refine kB [] [] A (aZ (aD [16] A) ?_)
 exact aK (aU A)
 intro vf U J e
 obtain⟨br,bl,aa⟩:=e 6 V
 obtain⟨bs,ab⟩:=dU (vf 6)
 rw[ab] at aa
 obtain⟨⟨ak,rfl,b8,b9⟩,rfl⟩:=aa
 have e7:=e 7 V
 have e8:=e 8 V
 refine Or.inl ⟨A,?_⟩
 show RunM _ _ _ (U 6) (([7,8]:List Nat).flatMap U++_) (envOf _ vf [6,7,8]++_) _ _
 rw[bl]
 exact eJ (aX 82 e7.1 (aX 83 e8.1 (aA _))) (by simp only[e7.2,e8.2,fS]<;>rfl) (gX (R:=(fun u_ E=>(∃M:Int,u_=jI M∧0≤M∧M<2*(((1+(1+K))+Y)+G))∧E=curE g a B D)) A A (fun L w hX hm=>dT g a B D z (2*(((1+(1+K))+Y)+G)) _ _ _ hm hb AE))
 intro vf U J e
 refine kB [] [] A (aZ (aD [0] A) ?_)
 exact aK (aU A)
 intro vf U J e
 refine kB [] [] A (aZ (aD [16] A) ?_)
 exact aK (aU A)
 intro vf U J e
 obtain⟨bt,a6,ac⟩:=e 9 V
 obtain⟨bu,X⟩:=dU (vf 9)
 rw[X] at ac
 obtain⟨⟨al,rfl,ba,bb⟩,rfl⟩:=ac
 have bg:=e 10 V
 have am:=e 11 V
 refine Or.inl ⟨A,?_⟩
 show RunM _ _ _ (U 9) (([10,11]:List Nat).flatMap U++_) (envOf _ vf [9,10,11]++_) _ _
 rw[a6]
 exact eJ (aX 85 bg.1 (aX 86 am.1 (aA _))) (by simp only[bg.2,am.2,fS]<;>rfl) (gX (R:=(fun u_ E=>(∃M:Int,u_=jI M∧0≤M∧M<2*(((1+(1+K))+Y)+G))∧E=curE g a B D)) A A (fun L w hX hm=>dT g a B D z (2*(((1+(1+K))+Y)+G)) _ _ _ hm hb AE))
 intro vf U J e
 refine kB [] [] A (aZ (aD [0] A) ?_)
 exact aK (aU A)
 intro vf U J e
 refine kB [] [] A (aZ (aD [16] A) ?_)
 exact aK (aU A)
 intro vf U J e
 obtain⟨bv,az,ad⟩:=e 12 V
 obtain⟨bw,a3⟩:=dU (vf 12)
 rw[a3] at ad
 obtain⟨⟨af,rfl,bc,bd⟩,rfl⟩:=ad
 have bm:=e 13 V
 have cp:=e 14 V
 refine Or.inl ⟨A,?_⟩
 show RunM _ _ _ (U 12) (([13,14]:List Nat).flatMap U++_) (envOf _ vf [12,13,14]++_) _ _
 rw[az]
 exact eJ (aX 88 bm.1 (aX 89 cp.1 (aA _))) (by simp only[bm.2,cp.2,fS]<;>rfl) (gX (R:=(fun u_ E=>(∃M:Int,u_=jI M∧0≤M∧M<2*(((1+(1+K))+Y)+G))∧E=curE g a B D)) A A (fun L w hX hm=>dT g a B D z (2*(((1+(1+K))+Y)+G)) _ _ _ hm hb AE))
 intro vf U J e
 obtain⟨br,bl,aa⟩:=e 6 V
 obtain⟨bs,ab⟩:=dU (vf 6)
 rw[ab] at aa
 obtain⟨⟨ak,rfl,b8,b9⟩,rfl⟩:=aa
 obtain⟨bt,a6,ac⟩:=e 9 V
 obtain⟨bu,X⟩:=dU (vf 9)
 rw[X] at ac
 obtain⟨⟨al,rfl,ba,bb⟩,rfl⟩:=ac
 obtain⟨bv,az,ad⟩:=e 12 V
 obtain⟨bw,a3⟩:=dU (vf 12)
 rw[a3] at ad
 obtain⟨⟨af,rfl,bc,bd⟩,rfl⟩:=ad
 obtain⟨cb,an,ao⟩:=e 15 V
 obtain⟨cc,a2⟩:=dU (vf 15)
 rw[a2] at ao
 obtain⟨⟨aw,rfl,bn,bo⟩,rfl⟩:=ao
 refine kB [15] [6,9,12,15] A (bQ (aX 81 ab (aX 84 X (aX 87 a3 (aX 90 a2 (aA _))))) (by simp only[an,a2,fS]<;>rfl) ?_)
 exact dM (aH (z:=jI 0) (s:=1) (cs:=(mI [ak,al,af,aw])) A z8 A V A F A) (fun Z E h=>by show IsRow 3 1 4 (mI [(intOf_o (vf 6)),(intOf_o (vf 9)),(intOf_o (vf 12)),(intOf_o (vf 15))]) Z E;rw[ab,X,a3,a2];exact h)
 intro vf U J e
 obtain⟨c9,ax,aj⟩:=e 3 V
 obtain⟨ca,a0⟩:=dU (vf 3)
 rw[a0] at aj
 obtain⟨⟨ah,rfl,bj,bk⟩,rfl⟩:=aj
 obtain⟨br,bl,aa⟩:=e 6 V
 obtain⟨bs,ab⟩:=dU (vf 6)
 rw[ab] at aa
 obtain⟨⟨ak,rfl,b8,b9⟩,rfl⟩:=aa
 obtain⟨bt,a6,ac⟩:=e 9 V
 obtain⟨bu,X⟩:=dU (vf 9)
 rw[X] at ac
 obtain⟨⟨al,rfl,ba,bb⟩,rfl⟩:=ac
 obtain⟨bv,az,ad⟩:=e 12 V
 obtain⟨bw,a3⟩:=dU (vf 12)
 rw[a3] at ad
 obtain⟨⟨af,rfl,bc,bd⟩,rfl⟩:=ad
 obtain⟨cb,an,ao⟩:=e 15 V
 obtain⟨cc,a2⟩:=dU (vf 15)
 rw[a2] at ao
 obtain⟨⟨aw,rfl,bn,bo⟩,rfl⟩:=ao
 have b0:IsRow 3 1 4 (mI [(intOf_o (vf 6)),(intOf_o (vf 9)),(intOf_o (vf 12)),(intOf_o (vf 15))]) (vf 16) (U 16):=e 16 V
 rw[ab,X,a3,a2] at b0
 obtain⟨ap,a7,b2⟩:=b0
 refine kB [15,16] [3,6,9,12,15,16] A (bQ (aX 78 a0 (aX 91 a7 (aA _))) (by simp only[an,a2,b2,a7,fS]<;>rfl) ?_)
 exact dM (aK (dG (cs:=#[jI 1,jI ah,.slice (some ⟨ap,0,none⟩) 4 4]) A A A)) (fun _ _ h=>⟨h.1.trans (by show _=(.agg #[jI 1,jI (intOf_o (vf 3)),(vf 16)]:Value);first|(rw[a0,a7];done)|(rw[a0,a7];rfl)),h.2⟩)
 intro vf U J e
 obtain⟨c9,ax,aj⟩:=e 3 V
 obtain⟨ca,a0⟩:=dU (vf 3)
 rw[a0] at aj
 obtain⟨⟨ah,rfl,bj,bk⟩,rfl⟩:=aj
 obtain⟨br,bl,aa⟩:=e 6 V
 obtain⟨bs,ab⟩:=dU (vf 6)
 rw[ab] at aa
 obtain⟨⟨ak,rfl,b8,b9⟩,rfl⟩:=aa
 obtain⟨bt,a6,ac⟩:=e 9 V
 obtain⟨bu,X⟩:=dU (vf 9)
 rw[X] at ac
 obtain⟨⟨al,rfl,ba,bb⟩,rfl⟩:=ac
 obtain⟨bv,az,ad⟩:=e 12 V
 obtain⟨bw,a3⟩:=dU (vf 12)
 rw[a3] at ad
 obtain⟨⟨af,rfl,bc,bd⟩,rfl⟩:=ad
 obtain⟨cb,an,ao⟩:=e 15 V
 obtain⟨cc,a2⟩:=dU (vf 15)
 rw[a2] at ao
 obtain⟨⟨aw,rfl,bn,bo⟩,rfl⟩:=ao
 have b0:IsRow 3 1 4 (mI [(intOf_o (vf 6)),(intOf_o (vf 9)),(intOf_o (vf 12)),(intOf_o (vf 15))]) (vf 16) (U 16):=e 16 V
 rw[ab,X,a3,a2] at b0
 obtain⟨ap,a7,b2⟩:=b0
 have cd:(vf 17)=.agg #[jI 1,jI (intOf_o (vf 3)),(vf 16)]∧(U 17)=[]:=e 17 V
 rw[a0,a7] at cd
 refine kB [15,16,17] [3,6,9,12,15,16,17] A (bQ (aX 92 cd.1 (aA _)) (by simp only[an,a2,b2,a7,cd.2,fS]<;>rfl) ?_)
 exact dM (aH (z:=.agg #[jI 0,jI 0,.slice none 0 0]) (s:=3) (cs:=[jI 1,jI ah,.slice (some ⟨ap,0,none⟩) 4 4]) A Tryz.underlying105 A V A F A) (fun Z E h=>by show IsRow 148 3 1 ([jI 1,jI (intOf_o (vf 3)),(vf 16)]) Z E;rw[a0,a7];exact h)
 intro vf U J e
 have e1:=e 1 V
 obtain⟨c9,ax,aj⟩:=e 3 V
 obtain⟨ca,a0⟩:=dU (vf 3)
 rw[a0] at aj
 obtain⟨⟨ah,rfl,bj,bk⟩,rfl⟩:=aj
 obtain⟨br,bl,aa⟩:=e 6 V
 obtain⟨bs,ab⟩:=dU (vf 6)
 rw[ab] at aa
 obtain⟨⟨ak,rfl,b8,b9⟩,rfl⟩:=aa
 obtain⟨bt,a6,ac⟩:=e 9 V
 obtain⟨bu,X⟩:=dU (vf 9)
 rw[X] at ac
 obtain⟨⟨al,rfl,ba,bb⟩,rfl⟩:=ac
 obtain⟨bv,az,ad⟩:=e 12 V
 obtain⟨bw,a3⟩:=dU (vf 12)
 rw[a3] at ad
 obtain⟨⟨af,rfl,bc,bd⟩,rfl⟩:=ad
 obtain⟨cb,an,ao⟩:=e 15 V
 obtain⟨cc,a2⟩:=dU (vf 15)
 rw[a2] at ao
 obtain⟨⟨aw,rfl,bn,bo⟩,rfl⟩:=ao
 have b0:IsRow 3 1 4 (mI [(intOf_o (vf 6)),(intOf_o (vf 9)),(intOf_o (vf 12)),(intOf_o (vf 15))]) (vf 16) (U 16):=e 16 V
 rw[ab,X,a3,a2] at b0
 obtain⟨ap,a7,b2⟩:=b0
 have cq:IsRow 148 3 1 ([jI 1,jI (intOf_o (vf 3)),(vf 16)]) (vf 18) (U 18):=e 18 V
 rw[a0,a7] at cq
 obtain⟨dc,c4,cr⟩:=cq
 have q0:=e 0 V
 have q1:=e 1 V
 have q2:=e 2 V
 have q4:=e 4 V
 have q5:=e 5 V
 have q7:=e 7 V
 have q8:=e 8 V
 have ce:=e 10 V
 have dd:=e 11 V
 have de:=e 13 V
 have df:=e 14 V
 have dg:=e 17 V
 refine cL (bE [74,70,39,17,16,12,11,10,9,8,3,2,1,0] _ (aX 76 e1.1 (aX 93 c4 (aA _))) A) (by simp only[an,a2,b2,a7,cr,c4,q0.2,q1.2,q2.2,q4.2,q5.2,q7.2,q8.2,ce.2,dd.2,de.2,df.2,dg.2,fS]<;>rfl) ?_
 simp only[drop_succ_cons,drop_zero]
 refine bT (i:=4) (z:=.agg #[jI 0,jI 0,.slice none 0 0]) (bytes:=40) A A A A Tryz.underlying105 F A A A A (aB 2 A) AK AC (bK ss [(Sq.mk 1 ah (.slice (some ⟨ap,0,none⟩) 4 4) ([ak,al,af,aw]))]) (dP sqC ss (Sq.mk 1 ah (.slice (some ⟨ap,0,none⟩) 4 4) ([ak,al,af,aw])) _ A) (fun _=>A) fun bx=>go ?_
 refine eE (i:=4) A (fun ct=>?_)
 refine gB (i:=7) (cs':=#[jI (1+K),bx,u,.slice none 0 0]) A A A A A A ct A A A A (go ?_)
 refine bN 9 [8,7,6,5,4,2,0,1,3] A A V ?_
 refine fH (bigE ((ss++[(Sq.mk 1 ah (.slice (some ⟨ap,0,none⟩) 4 4) ([ak,al,af,aw]))]).map sqPart)::curE g a B D::rowE 148 3 (.slice (some ⟨dc,0,none⟩) 1 1) 1 ([jI 1,jI ah,.slice (some ⟨ap,0,none⟩) 4 4])::rowE 148 3 bx ((ss++[(Sq.mk 1 ah (.slice (some ⟨ap,0,none⟩) 4 4) ([ak,al,af,aw]))]).length) ((ss++[(Sq.mk 1 ah (.slice (some ⟨ap,0,none⟩) 4 4) ([ak,al,af,aw]))]).flatMap sqC)::rS9 145 2 u gs anC::rowE 3 1 (.slice none 0 0) 0 ([])::boxE b5 #[jI (1+K),bx,u,.slice none 0 0] 125::eB9 b1::l) (fun w hm=>by rw[map_append];exact vK w hm) ?_
 refine bN 8 [1,7,6,5,4,3,0] A A V ?_
 exact aQ (i+1) bx (ss++[(Sq.mk 1 ah (.slice (some ⟨ap,0,none⟩) 4 4) ([ak,al,af,aw]))]) ⟨O,by simp;omega,Dt c8 ⟨.inr ⟨A,by dsimp only;omega,A⟩⟩ (fun x hx=>by simp only[List.mem_cons,List.not_mem_nil,or_false] at hx;unfold LtOk;omega)⟩ O (bV A) (.refl _)
 refine jF 7 [5,4,3,2,1,0,6] A A V ?_
 refine kY (l:=(bigE (ss.map sqPart)::rS9 148 3 uq ss sqC::rS9 145 2 u gs anC::rowE 3 1 (.slice none 0 0) 0 ([])::boxE b5 #[jI (1+K),uq,u,.slice none 0 0] 125::eB9 b1::l)) A 14 [0,1,2,3,4,5,6,7,8,9,10,11,12,13] (List.take 14 _) (List.drop 14 _) [[],[0],[],[2],[],[4],[],[],[7],[3,6,8],[5,9],[9,10],[3,9,11],[3,9,11,12]] [96,97,98,99,100,101,102,103,104,105,106,107,108,109] (fun i_ a4 Z E=>match i_ with|0=>Z=.pointer (some ⟨b5,0+1,none⟩)∧E=[]|1=>Z=uq∧E=[]|2=>Z=pI g∧E=[]|3=>(∃a1,E=[a1]∧(fun u_ E=>(∃M:Int,u_=jI M∧0≤M∧M<2)∧E=curE g a B D) Z a1)|4=>Z=jI (2*(((1+(1+K))+Y)+G))∧E=[]|5=>Z=jI ((2*(((1+(1+K))+Y)+G))-1)∧E=[]|6=>Z=pI g∧E=[]|7=>Z=jI (2*(((1+(1+K))+Y)+G))∧E=[]|8=>Z=jI (min (2*(((1+(1+K))+Y)+G)) 12)∧E=[]|9=>(∃a1,E=[a1]∧(fun u_ E=>(∃M:Int,u_=jI M∧0≤M∧M<min (2*(((1+(1+K))+Y)+G)) 12)∧E=curE g a B D) Z a1)|10=>Z=jI (((2*(((1+(1+K))+Y)+G))-1)-(intOf_o (gV9 a4 1)))∧E=[]|11=>IsRow 3 1 1 (mI [((2*(((1+(1+K))+Y)+G))-1)-(intOf_o (gV9 a4 0))]) Z E|12=>Z=.agg #[jI 0,jI (intOf_o (gV9 a4 0)),(gV9 a4 2)]∧E=[]|13=>IsRow 148 3 1 ([jI 0,jI (intOf_o (gV9 a4 0)),(gV9 a4 2)]) Z E|_=>True) [[],[0],[],[2],[],[4],[],[],[7],[6,8],[5,9],[9,10],[9,11],[9,11,12]] [none,none,none,some 17,none,none,none,none,none,some 3,none,none,none,none] [curE g a B D] [0,1,2,4,5,6,7,8,9,10,11,12,13] 17 (take_append_drop 14 _).symm F F F A A ?_ ?_
 refine⟨?_,?_,?_,?_,?_,?_,?_,?_,?_,?_,?_,?_,?_,?_,trivial⟩
 intro vf U J e
 refine kB [] [] A (aZ (aD [9] A) ?_)
 exact aK (fY 1 A A A)
 intro vf U J e
 have e0:=e 0 V
 refine kB [0] [0] A (bC (aX 96 e0.1 (aA _)) z9 ?_)
 exact aK (bJ A A A (bA 4 A A))
 intro vf U J e
 refine kB [] [] A (aZ (aD [0] A) ?_)
 exact aK (aU A)
 intro vf U J e
 have e2:=e 2 V
 refine Or.inl ⟨A,?_⟩
 show RunM _ _ _ (U 17) (([2]:List Nat).flatMap U++_) (envOf _ vf [2]++_) _ _
 rw[J]
 exact eJ (aX 98 e2.1 (aA _)) (by simp only[e2.2,fS]<;>rfl) (gX (R:=(fun u_ E=>(∃M:Int,u_=jI M∧0≤M∧M<2)∧E=curE g a B D)) A A (fun L w hX hm=>dT g a B D z 2 _ _ _ hm hb AE))
 intro vf U J e
 refine kB [] [] A (aZ (aD [16] A) ?_)
 exact aK (aU A)
 intro vf U J e
 have e4:=e 4 V
 refine kB [4] [4] A (aZ (aX 100 e4.1 (aA _)) ?_)
 exact aK (nK A A A)
 intro vf U J e
 refine kB [] [] A (aZ (aD [0] A) ?_)
 exact aK (aU A)
 intro vf U J e
 refine kB [] [] A (aZ (aD [16] A) ?_)
 exact aK (aU A)
 intro vf U J e
 have e7:=e 7 V
 refine kB [7] [7] A (aZ (aX 103 e7.1 (aA _)) ?_)
 exact aK (xV A A A)
 intro vf U J e
 obtain⟨cf,ax,aq⟩:=e 3 V
 obtain⟨cg,a0⟩:=dU (vf 3)
 rw[a0] at aq
 obtain⟨⟨ai,rfl,bp,bq⟩,rfl⟩:=aq
 have e6:=e 6 V
 have e8:=e 8 V
 refine Or.inl ⟨A,?_⟩
 show RunM _ _ _ (U 3) (([6,8]:List Nat).flatMap U++_) (envOf _ vf [3,6,8]++_) _ _
 rw[ax]
 exact eJ (aX 102 e6.1 (aX 104 e8.1 (aA _))) (by simp only[e6.2,e8.2,fS]<;>rfl) (gX (R:=(fun u_ E=>(∃M:Int,u_=jI M∧0≤M∧M<min (2*(((1+(1+K))+Y)+G)) 12)∧E=curE g a B D)) A A (fun L w hX hm=>dT g a B D z (min (2*(((1+(1+K))+Y)+G)) 12) _ _ _ hm hb AE))
 intro vf U J e
 have e5:=e 5 V
 obtain⟨bz,a6,ae⟩:=e 9 V
 obtain⟨c0,X⟩:=dU (vf 9)
 rw[X] at ae
 obtain⟨⟨ar,rfl,be,bf⟩,rfl⟩:=ae
 refine kB [5,9] [5,9] A (bQ (aX 101 e5.1 (aX 105 X (aA _))) (by simp only[a6,X,e5.2,fS]<;>rfl) ?_)
 exact dM (aK (nK A A A)) (fun _ _ h=>⟨h.1.trans (by show _=(jI (((2*(((1+(1+K))+Y)+G))-1)-(intOf_o (vf 9))):Value);first|(rw[X];done)|(rw[X];rfl)),h.2⟩)
 intro vf U J e
 obtain⟨bz,a6,ae⟩:=e 9 V
 obtain⟨c0,X⟩:=dU (vf 9)
 rw[X] at ae
 obtain⟨⟨ar,rfl,be,bf⟩,rfl⟩:=ae
 have bg:(vf 10)=jI (((2*(((1+(1+K))+Y)+G))-1)-(intOf_o (vf 9)))∧(U 10)=[]:=e 10 V
 rw[X] at bg
 refine kB [9,10] [9,10] A (bQ (aX 106 bg.1 (aA _)) (by simp only[a6,X,bg.2,fS]<;>rfl) ?_)
 exact dM (aH (z:=jI 0) (s:=1) (cs:=(mI [((2*(((1+(1+K))+Y)+G))-1)-ar])) A z8 A V A F A) (fun Z E h=>by show IsRow 3 1 1 (mI [((2*(((1+(1+K))+Y)+G))-1)-(intOf_o (vf 9))]) Z E;rw[X];exact h)
 intro vf U J e
 obtain⟨cf,ax,aq⟩:=e 3 V
 obtain⟨cg,a0⟩:=dU (vf 3)
 rw[a0] at aq
 obtain⟨⟨ai,rfl,bp,bq⟩,rfl⟩:=aq
 obtain⟨bz,a6,ae⟩:=e 9 V
 obtain⟨c0,X⟩:=dU (vf 9)
 rw[X] at ae
 obtain⟨⟨ar,rfl,be,bf⟩,rfl⟩:=ae
 have am:IsRow 3 1 1 (mI [((2*(((1+(1+K))+Y)+G))-1)-(intOf_o (vf 9))]) (vf 11) (U 11):=e 11 V
 rw[X] at am
 obtain⟨au,a8,b3⟩:=am
 refine kB [9,11] [3,9,11] A (bQ (aX 99 a0 (aX 107 a8 (aA _))) (by simp only[a6,X,b3,a8,fS]<;>rfl) ?_)
 exact dM (aK (dG (cs:=#[jI 0,jI ai,.slice (some ⟨au,0,none⟩) 1 1]) A A A)) (fun _ _ h=>⟨h.1.trans (by show _=(.agg #[jI 0,jI (intOf_o (vf 3)),(vf 11)]:Value);first|(rw[a0,a8];done)|(rw[a0,a8];rfl)),h.2⟩)
 intro vf U J e
 obtain⟨cf,ax,aq⟩:=e 3 V
 obtain⟨cg,a0⟩:=dU (vf 3)
 rw[a0] at aq
 obtain⟨⟨ai,rfl,bp,bq⟩,rfl⟩:=aq
 obtain⟨bz,a6,ae⟩:=e 9 V
 obtain⟨c0,X⟩:=dU (vf 9)
 rw[X] at ae
 obtain⟨⟨ar,rfl,be,bf⟩,rfl⟩:=ae
 have am:IsRow 3 1 1 (mI [((2*(((1+(1+K))+Y)+G))-1)-(intOf_o (vf 9))]) (vf 11) (U 11):=e 11 V
 rw[X] at am
 obtain⟨au,a8,b3⟩:=am
 have ch:(vf 12)=.agg #[jI 0,jI (intOf_o (vf 3)),(vf 11)]∧(U 12)=[]:=e 12 V
 rw[a0,a8] at ch
 refine kB [9,11,12] [3,9,11,12] A (bQ (aX 108 ch.1 (aA _)) (by simp only[a6,X,b3,a8,ch.2,fS]<;>rfl) ?_)
 exact dM (aH (z:=.agg #[jI 0,jI 0,.slice none 0 0]) (s:=3) (cs:=[jI 0,jI ai,.slice (some ⟨au,0,none⟩) 1 1]) A Tryz.underlying105 A V A F A) (fun Z E h=>by show IsRow 148 3 1 ([jI 0,jI (intOf_o (vf 3)),(vf 11)]) Z E;rw[a0,a8];exact h)
 intro vf U J e
 have e1:=e 1 V
 obtain⟨cf,ax,aq⟩:=e 3 V
 obtain⟨cg,a0⟩:=dU (vf 3)
 rw[a0] at aq
 obtain⟨⟨ai,rfl,bp,bq⟩,rfl⟩:=aq
 obtain⟨bz,a6,ae⟩:=e 9 V
 obtain⟨c0,X⟩:=dU (vf 9)
 rw[X] at ae
 obtain⟨⟨ar,rfl,be,bf⟩,rfl⟩:=ae
 have am:IsRow 3 1 1 (mI [((2*(((1+(1+K))+Y)+G))-1)-(intOf_o (vf 9))]) (vf 11) (U 11):=e 11 V
 rw[X] at am
 obtain⟨au,a8,b3⟩:=am
 have bm:IsRow 148 3 1 ([jI 0,jI (intOf_o (vf 3)),(vf 11)]) (vf 13) (U 13):=e 13 V
 rw[a0,a8] at bm
 obtain⟨dh,c5,cu⟩:=bm
 have q0:=e 0 V
 have q1:=e 1 V
 have q2:=e 2 V
 have q4:=e 4 V
 have q5:=e 5 V
 have q6:=e 6 V
 have q7:=e 7 V
 have q8:=e 8 V
 have ce:=e 10 V
 have di:=e 12 V
 refine cL (bE [74,70,39,17,16,12,11,10,9,8,3,2,1,0] _ (aX 97 e1.1 (aX 109 c5 (aA _))) A) (by simp only[a6,X,b3,a8,cu,c5,q0.2,q1.2,q2.2,q4.2,q5.2,q6.2,q7.2,q8.2,ce.2,di.2,fS]<;>rfl) ?_
 simp only[drop_succ_cons,drop_zero]
 refine bT (i:=4) (z:=.agg #[jI 0,jI 0,.slice none 0 0]) (bytes:=40) A A A A Tryz.underlying105 F A A A A (aB 2 A) AK AC (bK ss [(Sq.mk 0 ai (.slice (some ⟨au,0,none⟩) 1 1) ([((2*(((1+(1+K))+Y)+G))-1)-ar]))]) (dP sqC ss (Sq.mk 0 ai (.slice (some ⟨au,0,none⟩) 1 1) ([((2*(((1+(1+K))+Y)+G))-1)-ar])) _ A) (fun _=>A) fun c1=>go ?_
 refine eE (i:=4) A (fun cv=>?_)
 refine gB (i:=7) (cs':=#[jI (1+K),c1,u,.slice none 0 0]) A A A A A A cv A A A A (go ?_)
 refine bN 9 [8,7,6,5,4,2,0,1,3] A A V ?_
 refine fH (bigE ((ss++[(Sq.mk 0 ai (.slice (some ⟨au,0,none⟩) 1 1) ([((2*(((1+(1+K))+Y)+G))-1)-ar]))]).map sqPart)::curE g a B D::rowE 148 3 (.slice (some ⟨dh,0,none⟩) 1 1) 1 ([jI 0,jI ai,.slice (some ⟨au,0,none⟩) 1 1])::rowE 148 3 c1 ((ss++[(Sq.mk 0 ai (.slice (some ⟨au,0,none⟩) 1 1) ([((2*(((1+(1+K))+Y)+G))-1)-ar]))]).length) ((ss++[(Sq.mk 0 ai (.slice (some ⟨au,0,none⟩) 1 1) ([((2*(((1+(1+K))+Y)+G))-1)-ar]))]).flatMap sqC)::rS9 145 2 u gs anC::rowE 3 1 (.slice none 0 0) 0 ([])::boxE b5 #[jI (1+K),c1,u,.slice none 0 0] 125::eB9 b1::l) (fun w hm=>by rw[map_append];exact vK w hm) ?_
 refine bN 8 [1,7,6,5,4,3,0] A A V ?_
 exact aQ (i+1) c1 (ss++[(Sq.mk 0 ai (.slice (some ⟨au,0,none⟩) 1 1) ([((2*(((1+(1+K))+Y)+G))-1)-ar]))]) ⟨O,by simp;omega,Dt c8 ⟨.inl ⟨A,by dsimp only;omega,A⟩⟩ (fun x hx=>by simp only[List.mem_cons,List.not_mem_nil,or_false] at hx;unfold LtOk;omega)⟩ O (bV A) (.refl _)
 refine cR (R:=(fun u_ E=>(∃M:Int,u_=jI M∧0≤M∧M<4)∧E=curE g a B D)) 6 A A A A A (fun l' w hm=>dT g a B D z 4 _ _ _ hm hb AE) fun ej ek dj=>?_
 obtain⟨⟨el,rfl,dq,dr⟩,rfl⟩:=dj
 refine dO (l':=(bigE (ss.map sqPart)::rS9 148 3 uq ss sqC::rS9 145 2 u gs anC::rowE 3 1 (.slice none 0 0) 0 ([])::boxE b5 #[jI (1+K),uq,u,.slice none 0 0] 125::eB9 b1::curE g a B D::l)) A (go ?_)
 refine fP (α:=Int) (β:=Value) (γ:=List Int) [0,1,2,3,8,9,10,11,12,16,39,70] A (fun k uo os=>(bigE (ss.map sqPart)::rS9 148 3 uq ss sqC::rS9 145 2 u gs anC::rI9 3 uo os::boxE b5 #[jI (1+K),uq,u,uo] 125::eB9 b1::curE g a B D::l)) (fun k uo os=>[(18,jI k)]) (fun k uo os=>(-1≤k∧k≤3)∧((os.length:Int)+k≤3∧(0≤k∨1≤os.length))∧OsOk (((1+(1+K))+Y)+G) os) (fun k uo os=>(k+1).toNat) _ _ [] ⟨O,⟨by simp;omega,.inl O⟩,fun x hx=>absurd hx AI⟩ (bV A) (.refl _) fun k uo os cw=>go ?_
 obtain⟨em,en,cx⟩:=cw
 refine eK A A A A A A (fun dk=>go ?_) (fun dk=>go ?_)
 refine jF 7 [5,4,3,2,1,0,6] A A V ?_
 refine kY (l:=(bigE (ss.map sqPart)::rS9 148 3 uq ss sqC::rS9 145 2 u gs anC::rI9 3 uo os::boxE b5 #[jI (1+K),uq,u,uo] 125::eB9 b1::l)) A 10 [0,1,2,3,4,5,6,7,8,9] (List.take 10 _) (List.drop 10 _) [[],[0],[],[2],[],[],[5],[4,6],[3,7],[7,8]] [118,119,120,121,122,123,124,125,126,127] (fun i_ a4 Z E=>match i_ with|0=>Z=.pointer (some ⟨b5,0+3,none⟩)∧E=[]|1=>Z=uo∧E=[]|2=>Z=jI (2*(((1+(1+K))+Y)+G))∧E=[]|3=>Z=jI ((2*(((1+(1+K))+Y)+G))-1)∧E=[]|4=>Z=pI g∧E=[]|5=>Z=jI (2*(((1+(1+K))+Y)+G))∧E=[]|6=>Z=jI (min (2*(((1+(1+K))+Y)+G)) 12)∧E=[]|7=>(∃a1,E=[a1]∧(fun u_ E=>(∃M:Int,u_=jI M∧0≤M∧M<min (2*(((1+(1+K))+Y)+G)) 12)∧E=curE g a B D) Z a1)|8=>Z=jI (((2*(((1+(1+K))+Y)+G))-1)-(intOf_o (gV9 a4 1)))∧E=[]|9=>IsRow 3 1 1 (mI [((2*(((1+(1+K))+Y)+G))-1)-(intOf_o (gV9 a4 0))]) Z E|_=>True) [[],[0],[],[2],[],[],[5],[4,6],[3,7],[7,8]] [none,none,none,none,none,none,none,some 13,none,none] [curE g a B D] [0,1,2,3,4,5,6,7,8,9] 13 (take_append_drop 10 _).symm F F F A A ?_ ?_
 refine⟨?_,?_,?_,?_,?_,?_,?_,?_,?_,?_,trivial⟩
 intro vf U J e
 refine kB [] [] A (aZ (aD [9] A) ?_)
 exact aK (fY 3 A A A)
 intro vf U J e
 have e0:=e 0 V
 refine kB [0] [0] A (bC (aX 118 e0.1 (aA _)) z9 ?_)
 exact aK (bJ A A A (bA 4 A A))
 intro vf U J e
 refine kB [] [] A (aZ (aD [16] A) ?_)
 exact aK (aU A)
 intro vf U J e
 have e2:=e 2 V
 refine kB [2] [2] A (aZ (aX 120 e2.1 (aA _)) ?_)
 exact aK (nK A A A)
 intro vf U J e
 refine kB [] [] A (aZ (aD [0] A) ?_)
 exact aK (aU A)
 intro vf U J e
 refine kB [] [] A (aZ (aD [16] A) ?_)
 exact aK (aU A)
 intro vf U J e
 have e5:=e 5 V
 refine kB [5] [5] A (aZ (aX 123 e5.1 (aA _)) ?_)
 exact aK (xV A A A)
 intro vf U J e
 have e4:=e 4 V
 have e6:=e 6 V
 refine Or.inl ⟨A,?_⟩
 show RunM _ _ _ (U 13) (([4,6]:List Nat).flatMap U++_) (envOf _ vf [4,6]++_) _ _
 rw[J]
 exact eJ (aX 122 e4.1 (aX 124 e6.1 (aA _))) (by simp only[e4.2,e6.2,fS]<;>rfl) (gX (R:=(fun u_ E=>(∃M:Int,u_=jI M∧0≤M∧M<min (2*(((1+(1+K))+Y)+G)) 12)∧E=curE g a B D)) A A (fun L w hX hm=>dT g a B D z (min (2*(((1+(1+K))+Y)+G)) 12) _ _ _ hm hb AE))
 intro vf U J e
 have e3:=e 3 V
 obtain⟨cy,b7,b4⟩:=e 7 V
 obtain⟨cz,a5⟩:=dU (vf 7)
 rw[a5] at b4
 obtain⟨⟨bh,rfl,c6,c7⟩,rfl⟩:=b4
 refine kB [3,7] [3,7] A (bQ (aX 121 e3.1 (aX 125 a5 (aA _))) (by simp only[b7,a5,e3.2,fS]<;>rfl) ?_)
 exact dM (aK (nK A A A)) (fun _ _ h=>⟨h.1.trans (by show _=(jI (((2*(((1+(1+K))+Y)+G))-1)-(intOf_o (vf 7))):Value);first|(rw[a5];done)|(rw[a5];rfl)),h.2⟩)
 intro vf U J e
 obtain⟨cy,b7,b4⟩:=e 7 V
 obtain⟨cz,a5⟩:=dU (vf 7)
 rw[a5] at b4
 obtain⟨⟨bh,rfl,c6,c7⟩,rfl⟩:=b4
 have e8:(vf 8)=jI (((2*(((1+(1+K))+Y)+G))-1)-(intOf_o (vf 7)))∧(U 8)=[]:=e 8 V
 rw[a5] at e8
 refine kB [7,8] [7,8] A (bQ (aX 126 e8.1 (aA _)) (by simp only[b7,a5,e8.2,fS]<;>rfl) ?_)
 exact dM (aH (z:=jI 0) (s:=1) (cs:=(mI [((2*(((1+(1+K))+Y)+G))-1)-bh])) A z8 A V A F A) (fun Z E h=>by show IsRow 3 1 1 (mI [((2*(((1+(1+K))+Y)+G))-1)-(intOf_o (vf 7))]) Z E;rw[a5];exact h)
 intro vf U J e
 have e1:=e 1 V
 obtain⟨cy,b7,b4⟩:=e 7 V
 obtain⟨cz,a5⟩:=dU (vf 7)
 rw[a5] at b4
 obtain⟨⟨bh,rfl,c6,c7⟩,rfl⟩:=b4
 have e9:IsRow 3 1 1 (mI [((2*(((1+(1+K))+Y)+G))-1)-(intOf_o (vf 7))]) (vf 9) (U 9):=e 9 V
 rw[a5] at e9
 obtain⟨eo,X,a6⟩:=e9
 have q0:=e 0 V
 have q1:=e 1 V
 have q2:=e 2 V
 have q3:=e 3 V
 have q4:=e 4 V
 have q5:=e 5 V
 have q6:=e 6 V
 have q8:=e 8 V
 refine cL (bE [115,70,39,18,16,12,11,10,9,8,3,2,1,0] _ (aX 119 e1.1 (aX 127 X (aA _))) A) (by simp only[b7,a5,a6,X,q0.2,q1.2,q2.2,q3.2,q4.2,q5.2,q6.2,q8.2,fS]<;>rfl) ?_
 simp only[drop_succ_cons,drop_zero]
 refine bT (i:=5) (z:=jI 0) (bytes:=8) A A A A z8 F A A A A (aB 1 A) (bI _) AD (bK os ([((2*(((1+(1+K))+Y)+G))-1)-bh])) (cB os ([((2*(((1+(1+K))+Y)+G))-1)-bh])) (fun _=>A) fun d0=>go ?_
 refine eE (i:=5) A (fun d1=>?_)
 refine gB (i:=6) (cs':=#[jI (1+K),uq,u,d0]) A A A A A A d1 A A A A (go ?_)
 refine bN 8 [0,7,6,5,4,3,2] A A V ?_
 exact aQ (k-1) d0 (os++([((2*(((1+(1+K))+Y)+G))-1)-bh])) ⟨O,⟨by simp;omega,.inr AI⟩,os_app cx (by unfold LtOk;omega)⟩ O (bV A) (.refl _)
 refine eE (i:=3) A (fun d2=>?_)
 refine eE (i:=2) A (fun d3=>?_)
 refine eE (i:=1) A (fun d4=>?_)
 refine cA (cs':=#[jI (1+K),uq,u,uo]) (i:=5) (off:=0) (us:=[jI (1+K),uq,u,uo]) A A A A A A A (aC A (aC d4 (aC d3 (aC d2 bH)))) A A A (go ?_)
 refine yP (i:=1) A (fun oQ=>?_)
 refine yP (i:=2) A (fun oA=>?_)
 refine yP (i:=3) A (fun oO=>?_)
 refine bN 7 [5,6,3,2,1,0] A A V ?_
 refine fH (bigE [curE g a B D,ntE (Nt.mk (1+K) uq u uo ss gs os)]::boxE b1 #[jI (1+K),uq,u,uo] 125::l) (fun w hm=>by
     have h1:Mem _ ([bigE (ss.map sqPart),rS9 148 3 uq ss sqC]++(rS9 145 2 u gs anC::rI9 3 uo os::curE g a B D::boxE b1 #[jI (1+K),uq,u,uo] 125::l)) w:=hm
     have h2:Mem _ ([sqsE uq ss,rS9 145 2 u gs anC,rI9 3 uo os]++(curE g a B D::boxE b1 #[jI (1+K),uq,u,uo] 125::l)) w:=h1.big
     have h3:Mem _ (ntE (Nt.mk (1+K) uq u uo ss gs os)::curE g a B D::boxE b1 #[jI (1+K),uq,u,uo] 125::l) w:=Mem.big h2
     exact Mem.big (ps:=[curE g a B D,ntE (Nt.mk (1+K) uq u uo ss gs os)]) (h3.perm (.swap _ _ _))) ?_
 exact fU (rs:=[.cell 8 125]) (vs:=[.agg #[jI (1+K),uq,u,uo]]) A ⟨⟨b1,0,[jI (1+K),uq,u,uo],A,A,F,F,aM 1 A 0 A⟩,trivial⟩ A (fun w hm=>⟨_,bigE [curE g a B D,ntE (Nt.mk (1+K) uq u uo ss gs os)],A,⟨Nt.mk (1+K) uq u uo ss gs os,A,A,⟨oQ,oA,oO⟩,nt_mk O O O O O c8 cj cx O O,by dsimp only;omega,by dsimp only;omega,by dsimp only;omega,by dsimp only;omega⟩,hm.sub (.cons_cons _ (.cons _ (.refl _)))⟩)
open Go.RowKit
theorem and01 {a b:Int}(h:a=0∨a=1) (B:b=0∨b=1):bits .and .i64 a b=a*b:=by
  rcases h with e|e<;>rcases B with e'|e'<;>rw[e,e']<;>decide
theorem xor01 {a l:Int}(h:a=0∨a=1):bits .xor .i64 a (l % 2)=if l % 2=0 then a else 1-a:=by
  rcases(show l % 2=0∨l % 2=1 by omega) with e|e<;>rcases h with e'|e'<;>rw[e,e']<;>decide
theorem mul_01 {a b:Int}(h:a=0∨a=1) (B:b=0∨b=1):a*b=0∨a*b=1:=by
  rcases h with e|e<;>rcases B with e'|e'<;>rw[e,e']<;>decide
theorem nD (x lo e:Int) (w:World)  :
   Calls Tryz.prog 58 #[.int .i64 x,.int .i64 lo,.int .i64 e] w (Ans w (.bool (inR x lo e))):=by
 refine aY (N:=15) (args:=[jI x,jI lo,jI e]) Tryz.func58 A A (cF 1 A (aG (cN 2 A ?_)))
 refine eK A A A A A A (fun B=>go ?_) (fun B=>go ?_)
 refine iA A A A A A A (fun D=>go ?_) (fun D=>go ?_)
 exact aT A A (congrArg _ (((dA _ _ _).2 O).symm))
 exact aT A A (congrArg _ ((Bool.eq_false_iff.2 (fun h=>by have:=(dA _ _ _).1 h;omega)).symm))
 exact aT A A (congrArg _ ((Bool.eq_false_iff.2 (fun h=>by have:=(dA _ _ _).1 h;omega)).symm))
theorem dK (n:Nt) (w:World) (e:RdsNt w n) (h:NtOk n) :
   Calls Tryz.prog 122 #[.agg #[.int .i64 n.ins,n.sv,n.av,n.ov]] w (Ans w (.int .i64 n.cnt)):=by
 have M:=h.i0
 have U:=h.i1
 have X:=h.s1
 have Y:=h.a1
 have Z:=h.o1
 have B:n.cnt=1+n.ins+n.ss.length+n.gs.length:=rfl
 have D:n.fst=1+n.ins+n.ss.length:=rfl
 refine aY (N:=36) (args:=[.agg #[jI n.ins,n.sv,n.av,n.ov]]) Tryz.func122 A A (dW ?_)
 refine cU A (cE A A) fun b1=>go ?_
 refine cM A (aF A A (fun w hm=>aI (nD n.ins 0 20 w))) (bD (fun E=>go ?_) (fun E=>absurd ((((dA _ _ _).2 O)).symm.trans E) V))
 refine aN A (eV A A A (aE e.sq)) ?_
 refine fJ A A A A A A (fun G=>absurd G O) (fun G=>go ?_)
 refine aN A (eV A A A (aE e.an)) ?_
 refine fJ A A A A A A (fun J=>absurd J O) (fun J=>go ?_)
 refine aN A (eV A A A (aE e.ou)) ?_
 refine fJ A A A A A A (fun K=>absurd K O) (fun K=>go ?_)
 refine aN A (eV A A A (aE e.sq)) (go ?_)
 refine aN A (eV A A A (aE e.an)) (go ?_)
 exact aT A A A
theorem dZ (n:Nt) (w:World) (D:RdsNt w n) (e:NtOk n) :
   Calls Tryz.prog 123 #[.agg #[.int .i64 n.ins,n.sv,n.av,n.ov]] w (Ans w (.int .i64 n.fst)):=by
 have E:=e.i0
 have G:=e.i1
 have J:=e.s1
 have K:=e.a1
 have M:=e.o1
 have h:n.cnt=1+n.ins+n.ss.length+n.gs.length:=rfl
 have B:n.fst=1+n.ins+n.ss.length:=rfl
 refine aY (N:=10) (args:=[.agg #[jI n.ins,n.sv,n.av,n.ov]]) Tryz.func123 A A (dW ?_)
 refine cU A (cE A A) fun U=>go ?_
 refine aN A (eV A A A (aE D.sq)) (go ?_)
 exact aT A A A
theorem lR (x m:Int) (w:World) (B:LtOk x m) (D:m≤100000) :
   Calls Tryz.prog 138 #[.int .i64 x,.int .i64 m] w (Ans w (.bool true)):=by
 unfold LtOk at B
 refine aY (N:=13) (args:=[jI x,jI m]) Tryz.func138 A A (cF 1 A (aG (cN 1 A ?_)))
 refine eK A A A A A A (fun e=>?_) (fun e=>absurd e O)
 refine aS 2 A (aN A (gD A A A AH) ?_)
 refine aS 1 A (aW A A A A A A (fun h=>?_) (fun h=>absurd h O))
 refine bG 2 A ?_
 exact cW (aT A A A)
theorem nC (n:Nt) (w:World) (h:RdsNt w n) (e:NtOk n) :
   Calls Tryz.prog 124 #[.agg #[.int .i64 n.ins,n.sv,n.av,n.ov]] w (Ret w (fun J post=>post=[rI9 3 J (rtsL n n.ss.length)])):=by
 have K:=e.i0
 have M:=e.i1
 have U:=e.s1
 have X:=e.a1
 have Y:=e.o1
 have E:n.cnt=1+n.ins+n.ss.length+n.gs.length:=rfl
 have G:n.fst=1+n.ins+n.ss.length:=rfl
 refine aY (N:=25) (args:=[.agg #[jI n.ins,n.sv,n.av,n.ov]]) Tryz.func124 A A (dW ?_)
 refine cU A (cE A A) fun Z=>go ?_
 refine cH A (bU (s:=1) A z8 A) fun g2=>go ?_
 refine bT (i:=0) (z:=jI 0) (bytes:=8) (n':=n.os.length) (xs':=(mI n.os)) A A A A z8 F A A A A (aE h.ou) (bI _) AD (Nat.zero_add _) (nil_append _) (fun _=>A) fun v3=>go ?_
 refine fP (α:=Nat) (β:=Value) (γ:=List Int) [0,1,2] A (fun k u zs=>[rI9 3 u zs,nB9 Z n]) (fun k u zs=>[(3,u),(4,jI (k:Int))]) (fun k u zs=>k≤n.ss.length∧zs=rtsL n k) (fun k u zs=>n.ss.length-k) 0 _ n.os ⟨O,by simp[rtsL]⟩ (bV A) (cZ A) fun k u zs B=>go ?_
 obtain⟨hk,D⟩:=B
 have a0:zs.length≤16+4*k:=by rw[D];exact oK e k hk
 refine aN A (eV A A A (aE h.sq)) ?_
 refine aW A A A A A A (fun h5=>go ?_) (fun h5=>go ?_)
 have a2:=(e.sq _ (dJ (d:=sq0) (show k<n.ss.length by omega))).len
 refine aN A (cV 3 A A A A (aE h.sq)) (aN A (bR (k0:=2) A A A (aE h.sq) O) ?_)
 refine aN A (aL (u:=(n.ss.getD k sq0).iv) A A A (aE h.sq) ((dC sqC 3 (fun _=>A) n.ss sq0 (show k<_ by omega) V).trans A)) (bT (i:=0) (z:=jI 0) (bytes:=8) A A A A z8 F A A A A (fun w hm=>(h.at (k:=k) O).below hm.bel) (bI _) AD (bK zs ((n.ss.getD k sq0).xs)) (cB zs ((n.ss.getD k sq0).xs)) (fun _=>A) fun v6=>go ?_)
 exact aQ (k+1) v6 (zs++((n.ss.getD k sq0).xs)) ⟨O,by rw[D,zU n O]⟩ O (bV rfl) (cZ rfl)
 exact bM (post:=[rI9 3 u zs]) A A (eA [0] A) (by rw[D,show k=n.ss.length by omega])
theorem gG (n:Nt) (w:World) (h:RdsNt w n) (B:NtOk n) :
   Calls Tryz.prog 117 #[.agg #[.int .i64 n.ins,n.sv,n.av,n.ov]] w (Ans w (.bool true)):=by
 have aa:=B.i0
 have ab:=B.i1
 have ac:=B.s1
 have ad:=B.a1
 have ae:=B.o1
 have a6:n.cnt=1+n.ins+n.ss.length+n.gs.length:=rfl
 have a7:n.fst=1+n.ins+n.ss.length:=rfl
 refine aY (N:=104) (args:=[.agg #[jI n.ins,n.sv,n.av,n.ov]]) Tryz.func117 A A (dW ?_)
 refine cU A (cE A A) fun D=>go ?_
 refine cM A (aF A A (fun w e=>aI (dK n w (h.below e.bel) B))) (go ?_)
 refine bZ A A A A A A (fun h2=>absurd h2 O) (fun h2=>go ?_)
 refine lC (α:=Nat) [0,1,2,3,12] A (fun k=>[nB9 D n]) (fun k=>[(4,jI (k:Int))]) (fun k=>k≤n.ss.length) (fun k=>n.ss.length-k) 0 (Nat.zero_le _) (bV A) (cZ A) fun k U=>go ?_
 have hk:=U
 refine aN A (eV A A A (aE h.sq)) ?_
 refine aW A A A A A A (fun h4=>go ?_) (fun h4=>go ?_)
 have af:=(B.sq _ (dJ (d:=sq0) (show k<n.ss.length by omega))).kind
 refine aN A (cV 3 A A A A (aE h.sq)) ?_
 refine aN A (cO (us:=[jI ((n.ss.getD k sq0).kd),jI ((n.ss.getD k sq0).it),(n.ss.getD k sq0).iv]) A A A A (aE h.sq) O A (dQ sqC 3 (fun _=>A) n.ss sq0 (show k<_ by omega) A)) (cU A (bY (z:=.agg #[jI 0,jI 0,.slice none 0 0]) A A) fun b5=>?_)
 refine cA (cs':=#[jI ((n.ss.getD k sq0).kd),jI ((n.ss.getD k sq0).it),(n.ss.getD k sq0).iv]) (i:=0) (off:=0) (us:=[jI ((n.ss.getD k sq0).kd),jI ((n.ss.getD k sq0).it),(n.ss.getD k sq0).iv]) A A A A A A A (aC A (aC A (aC (h.at (k:=k) O).one bH))) A A A (go ?_)
 refine bZ A A A A A A (fun h6=>go ?_) (fun h6=>go ?_)
 refine cM A (aF A A (fun w e=>aI (nD ((n.ss.getD k sq0).it) 0 1 w))) (bD (fun h7=>go ?_) (fun h7=>absurd ((((dA _ _ _).2 O)).symm.trans h7) V))
 refine aN A (eV A A A (fun w e=>(h.at (k:=k) O).below e.bel)) (bZ A A A A A A (fun h8=>go ?_) (fun h8=>go ?_))
 exact dR (k+1) O O (bV A) (eA [1] A)
 refine bZ A A A A A A (fun h9=>go ?_) (fun h9=>go ?_)
 refine cM A (aF A A (fun w e=>aI (nD ((n.ss.getD k sq0).it) 0 31 w))) (bD (fun E=>go ?_) (fun E=>absurd ((((dA _ _ _).2 O)).symm.trans E) V))
 refine aN A (eV A A A (fun w e=>(h.at (k:=k) O).below e.bel)) (bZ A A A A A A (fun X=>go ?_) (fun X=>go ?_))
 exact dR (k+1) O O (bV A) (eA [1] A)
 exfalso
 omega
 exfalso
 omega
 refine bZ A A A A A A (fun Y=>go ?_) (fun Y=>go ?_)
 refine cM A (aF A A (fun w e=>aI (nD ((n.ss.getD k sq0).it) 0 31 w))) (bD (fun G=>go ?_) (fun G=>absurd ((((dA _ _ _).2 O)).symm.trans G) V))
 refine aN A (eV A A A (fun w e=>(h.at (k:=k) O).below e.bel)) (bZ A A A A A A (fun Z=>go ?_) (fun Z=>go ?_))
 exact dR (k+1) O O (bV A) (eA [1] A)
 exfalso
 omega
 exfalso
 omega
 refine fF A A A (aF A A (fun w e=>nC n w (h.below e.bel) B)) fun J ag a0=>?_
 subst a0
 refine go ?_
 refine lC (α:=Nat) [0,1,2,3,6,12,17] A (fun q=>[rowE 3 1 J ((rtsL n n.ss.length).length) (mI (rtsL n n.ss.length)),nB9 D n]) (fun q=>[(7,jI (q:Int))]) (fun q=>q≤(rtsL n n.ss.length).length) (fun q=>(rtsL n n.ss.length).length-q) 0 (Nat.zero_le _) (bV A) (cZ A) fun q K=>go ?_
 have hq:=K
 have a2:=oK B n.ss.length (Nat.le_refl _)
 refine aW A A A A A A (fun a3=>go ?_) (fun a3=>go ?_)
 have ah:=Cg B (i:=q) O
 have a2:=oK B n.ss.length (Nat.le_refl _)
 refine aN A (cV 1 A A A A (aB 0 A)) (aN A (aL (u:=jI ((rtsL n n.ss.length).getD q 0)) A A A (aB 0 A) (cJ (show _<(rtsL n n.ss.length).length by omega))) (go ?_))
 refine cM A (aF A A (fun w e=>aI (lR ((rtsL n n.ss.length).getD q 0) n.cnt w (by first|assumption|(unfold LtOk;omega)) O))) (go ?_)
 exact dR (q+1) O O (bV A) (cZ A)
 refine lC (α:=Nat) [0,1,2,3,6,12,17,61] A (fun j=>[rowE 3 1 J ((rtsL n n.ss.length).length) (mI (rtsL n n.ss.length)),nB9 D n]) (fun j=>[(8,jI (j:Int))]) (fun j=>j≤n.gs.length) (fun j=>n.gs.length-j) 0 (Nat.zero_le _) (bV A) (cZ A) fun j M=>go ?_
 have hj:=M
 refine aN A (eV A A A (aE h.an)) ?_
 refine aW A A A A A A (fun a4=>go ?_) (fun a4=>go ?_)
 have a5:=B.an j O
 obtain⟨a8,a9⟩:=a5
 refine bL 26 [[],[0],[],[1,2],[3],[4],[],[6],[],[7,8],[5,9],[10],[11],[12],[12,13],[12],[12,14,15],[12,16],[12,17],[12],[12,19],[12],[12,20,21],[12,18,22],[12,23],[12,24]] [78,79,80,81,82,83,84,85,86,87,88,89,90,91,92,93,94,95,96,97,98,99,100,101,102,103] [.pointer (some ⟨D,0+2,none⟩),n.av,jI (j:Int),elP n.av ((j:Int).toNat*2),elP n.av ((j:Int).toNat*2+0),jI ((n.gs.getD j an0).a),.agg #[jI n.ins,n.sv,n.av,n.ov],jI n.fst,jI (j:Int),jI (n.fst+(j:Int)),.bool true,.bool false,.bool false,.pointer (some ⟨D,0+2,none⟩),n.av,jI (j:Int),elP n.av ((j:Int).toNat*2),elP n.av ((j:Int).toNat*2+1),jI ((n.gs.getD j an0).b),.agg #[jI n.ins,n.sv,n.av,n.ov],jI n.fst,jI (j:Int),jI (n.fst+(j:Int)),.bool true,.bool false,.bool false] F A ?_ ?_
 exact⟨aJ,aJ,aJ,fL A (cV 2 A A A A (aE h.an)) A,fL A (bR (k0:=0) A A A (aE h.an) O) A,fL A (aL (u:=jI ((n.gs.getD j an0).a)) A A A (aE h.an) ((dC anC 2 (fun _=>A) n.gs an0 (show j<_ by omega) V).trans A)) A,aJ,.inl ⟨A,aF A A (fun w e=>aI (dZ n w (h.below e.bel) B))⟩,aJ,aJ,.inl ⟨A,aF F A (fun w e=>aI (lR ((n.gs.getD j an0).a) (n.fst+(j:Int)) w (by first|assumption|(unfold LtOk;omega)) O))⟩,aJ,aJ,aJ,aJ,aJ,fL A (cV 2 A A A A (aE h.an)) A,fL A (bR (k0:=1) A A A (aE h.an) O) A,fL A (aL (u:=jI ((n.gs.getD j an0).b)) A A A (aE h.an) ((dC anC 2 (fun _=>A) n.gs an0 (show j<_ by omega) V).trans A)) A,aJ,.inl ⟨A,aF A A (fun w e=>aI (dZ n w (h.below e.bel) B))⟩,aJ,aJ,.inl ⟨A,aF F A (fun w e=>aI (lR ((n.gs.getD j an0).b) (n.fst+(j:Int)) w (by first|assumption|(unfold LtOk;omega)) O))⟩,aJ,aJ,trivial⟩
 simp only[drop_succ_cons,drop_zero]
 refine go ?_
 exact dR (j+1) O O (bV A) (cZ A)
 exact aT A A A
theorem uS (xs:List Int) (l:Int) (v:Value) (w:World) (h:RdsW w v 1 xs.length (xs.map (Value.int .i64))) (D:0≤l∧l<2*xs.length) (e:xs.getD (l / 2).toNat 0=0∨xs.getD (l / 2).toNat 0=1) (B:xs.length≤100000) :
   Calls Tryz.prog 144 #[v,.int .i64 l] w (Ans w (.int .i64 (bitL xs l))):=by
 refine aY (N:=13) (args:=[v,jI l]) Tryz.func144 A A (cF 1 A (aG (cN 2 A ?_)))
 refine aN A (gD A A A AH) ?_
 refine aN A (cV 1 A A A A (aE h)) (aN A (lP A A A (aE h)) (aS 1 A (aN A (jU A V A A (r:=l % 2) (Bit.and_one _ O O)) (aN A (jU A V A A (r:=bitL xs l) (xor01 e)) (bG 1 A ?_)))))
 exact cW (aT A A A)
section
variable {P:Program}{N:Nat}{w0:World}{l:List HP}{env:List (Nat×Value)}{o:Oper}
theorem uB (w:World) (t e:TypeId) (a:Option Addr) (l c:Nat) (h:P.underlying t=some (.slice e)):(binOp .eql t (.slice a l c) (.slice none 0 0)).run P w=.ok (.bool a.isNone) w:=by
  simp only[binOp]
  simp[run_equal_slice_nil w t e a l c h]
theorem Fi {t E e:TypeId}{x y:Operand}{v:Value}{s n:Nat}{cs:List Value}(G:o.op=.binOp .eql t x y E) (J:P.underlying t=some (.slice e)) (K:ev env x=some v) (M:ev env y=some (.slice none 0 0)) (U:Rd w0 l v s n cs) (X:0<n):RunV P N w0 l env o (.bool false):=fun a w B=>by
  obtain⟨Z,D,rfl,hl,hm,Y⟩:=U w B.mem
  obtain⟨b,off,rfl, -⟩:=Y X
  have h:=uB (P:=P) w t e (some ⟨b,off,none⟩) n D J
  simp[execOp,G,B.eval K,B.eval M,eqGuard,h]
theorem xW {t D e:TypeId}{x y:Operand}(E:o.op=.binOp .eql t x y D) (G:P.underlying t=some (.slice e)) (J:ev env x=some (.slice none 0 0)) (K:ev env y=some (.slice none 0 0)):RunV P N w0 l env o (.bool true):=fun a w B=>by
  have h:=uB (P:=P) w t e none 0 0 G
  simp[execOp,E,B.eval J,B.eval K,eqGuard,h]
end
open Go.RowKit
def eqA (a b c d:Int):Bool:=a==c&&b==d
theorem Bit.xor_par (m:Nat):(m ^^^ 1) % 2=(m+1) % 2:=by
  have h:(m ^^^ 1) / 2 ^ 0 % 2=(m / 2 ^ 0 % 2) ^^^ (1 / 2 ^ 0 % 2):=Bit.bit_xor m 1 0
  simp only[Nat.pow_zero,Nat.div_one] at h
  rw[h]
  rcases Nat.mod_two_eq_zero_or_one m with e|e<;>rw[e]<;>simp<;>omega
theorem Gm {a:Int}(h:0≤a) (B:a<4294967296):bits .xor .i64 a 1=xr a:=by
  rw[Bit.xor_int a 1 h B V V]
  unfold xr
  have D:(a.toNat ^^^ (1:Int).toNat) / 2=a.toNat / 2:=by
    show(a.toNat ^^^ 1) / 2=a.toNat / 2
    have:=Nat.xor_div_two (a:=a.toNat) (b:=1)
    rw[this];simp
  have E:(a.toNat ^^^ (1:Int).toNat) % 2=(a.toNat+1) % 2:=by
    show(a.toNat ^^^ 1) % 2=(a.toNat+1) % 2
    have e:=Bit.xor_par a.toNat
    exact e
  split<;>omega
section
variable {N:Nat}{w0:World}{l:List HP}{env:List (Nat×Value)}{o:Oper}
theorem Ju {x y:Operand}{a b c d:Int}(K:o.op=.binOp .eql 145 x y 145) (M:ev env x=some (.agg #[.int .i64 a,.int .i64 b])) (U:ev env y=some (.agg #[.int .i64 c,.int .i64 d])) :
    RunV Tryz.prog N w0 l env o (.bool (eqA a b c d)):=fun a1 w E=>by
  have X:(eqGuard .eql 145 x y (.agg #[.int .i64 a,.int .i64 b]) (.agg #[.int .i64 c,.int .i64 d])).run Tryz.prog w=.ok () w:=run_eqGuard_agg _ _ _ _ _ _ _ F
  have Y:(binOp .eql 145 (.agg #[.int .i64 a,.int .i64 b]) (.agg #[.int .i64 c,.int .i64 d])).run Tryz.prog w=.ok (.bool (eqA a b c d)) w:=by
    rw[run_eql_struct,run_equalIn_struct _ _ _ _ _ F F]
    have Z:(Tryz.prog.fieldsOf 145).toList=[(Tryz.prog.fieldsOf 145)[0]!,(Tryz.prog.fieldsOf 145)[1]!]:=F
    have n0:((Tryz.prog.fieldsOf 145)[0]!).name = "A":=F
    have n1:((Tryz.prog.fieldsOf 145)[1]!).name = "B":=F
    have h:((Tryz.prog.fieldsOf 145)[0]!).type=3:=F
    have D:((Tryz.prog.fieldsOf 145)[1]!).type=3:=F
    have G:((Tryz.prog.fieldsOf 145)[0]!).offset=0:=F
    have J:((Tryz.prog.fieldsOf 145)[1]!).offset=1:=F
    rw[Z]
    generalize (Tryz.prog.fieldsOf 145)[0]! = f0 at *
    generalize (Tryz.prog.fieldsOf 145)[1]! = f1 at *
    have m0:f0.name≠"_":=by rw[n0];decide
    have m1:f1.name≠"_":=by rw[n1];decide
    have e:Tryz.prog.plainKey 3=true:=F
    have q:∀(u v:Int) (w:World),(Op.equalIn 9999 3 (.int .i64 u) (.int .i64 v)).run Tryz.prog w=.ok (u==v) w:=fun u v w=>run_equalIn_int w 9998 3 .i64 .i64 u v Tryz.underlying3
    have pa:∀w:World,(part f0.type #[Value.int .i64 a,.int .i64 b] f0.offset).run Tryz.prog w=.ok (.int .i64 a) w:=fun w=>by rw[h,G];exact run_part_plain w e rfl
    have pb:∀w:World,(part f1.type #[Value.int .i64 a,.int .i64 b] f1.offset).run Tryz.prog w=.ok (.int .i64 b) w:=fun w=>by rw[D,J];exact run_part_plain w e rfl
    have pc:∀w:World,(part f0.type #[Value.int .i64 c,.int .i64 d] f0.offset).run Tryz.prog w=.ok (.int .i64 c) w:=fun w=>by rw[h,G];exact run_part_plain w e rfl
    have pd:∀w:World,(part f1.type #[Value.int .i64 c,.int .i64 d] f1.offset).run Tryz.prog w=.ok (.int .i64 d) w:=fun w=>by rw[D,J];exact run_part_plain w e rfl
    have q0:∀(u v:Int) (w:World),(Op.equalIn 9999 f0.type (.int .i64 u) (.int .i64 v)).run Tryz.prog w=.ok (u==v) w:=by rw[h];exact q
    have q1:∀(u v:Int) (w:World),(Op.equalIn 9999 f1.type (.int .i64 u) (.int .i64 v)).run Tryz.prog w=.ok (u==v) w:=by rw[D];exact q
    simp only[Op.eqFields,m0,m1,ne_eq,not_false_eq_true,if_true,Sem.run_bind,pa,pb,pc,pd,q0,q1,Result.andThen_ok,Sem.run_ite,Sem.run_pure]
    unfold eqA
    cases (a==c)<;>cases (b==d)<;>simp
  simp[execOp,K,E.eval M,E.eval U,X,Y]
end
def sqv (s:Sq):Int×Int×List Int:=(s.kd,s.it,s.xs)
def sqk (s:Sq):Int×Int×Nat:=(s.kd,s.it,s.xs.length)
structure NtRest (w:World) (n:Nt):Prop where
  xs:∀s∈n.ss,RdsW w s.iv 1 s.xs.length (s.xs.map (Value.int .i64))
  an:RdsW w n.av 2 n.gs.length (n.gs.flatMap anC)
  ou:RdsW w n.ov 1 n.os.length (n.os.map (Value.int .i64))
theorem NtRest.rds {w:World}{n:Nt}(h:NtRest w n) (e:RdsW w n.sv 3 n.ss.length (n.ss.flatMap sqC)):RdsNt w n:=⟨e,h.xs,h.an,h.ou⟩
def RdsSqs (w:World) (ss:List Sq):Prop:=∀s∈ss,RdsW w s.iv 1 s.xs.length (s.xs.map (Value.int .i64))
theorem RdsSqs.nil (w:World):RdsSqs w []:=fun s e=>by cases e
theorem RdsSqs.at {w:World}{e:List Sq}(h:RdsSqs w e) {k:Nat}(B:k<e.length):RdsW w (e.getD k sq0).iv 1 (e.getD k sq0).xs.length ((e.getD k sq0).xs.map (Value.int .i64)):=h _ (dJ B)
theorem RdsSqs.app {w:World}{B:List Sq}{s:Sq}(h:RdsSqs w B) (D:RdsW w s.iv 1 s.xs.length (s.xs.map (Value.int .i64))):RdsSqs w (B++[s]):=fun r e=>by
  rcases List.mem_append.1 e with e|e
  · exact h r e
  · rw[mem_singleton] at e;subst e;exact D
theorem RdsSqs.set {w:World}{B:List Sq}{k:Nat}{s:Sq}(h:RdsSqs w B) (D:RdsW w s.iv 1 s.xs.length (s.xs.map (Value.int .i64))):RdsSqs w (B.set k s):=fun r e=>by
  rcases List.mem_or_eq_of_mem_set e with e|rfl
  · exact h r e
  · exact D
theorem xN {e zs:List Sq}(h:zs.map sqv=e.map sqv):zs.length=e.length:=by simpa using congrArg List.length h
theorem xO {e zs:List Sq}(h:zs.map sqk=e.map sqk):zs.length=e.length:=by simpa using congrArg List.length h
theorem yI {α β:Type}{f:α→β}{xs e:List α}{d:α}(h:xs.map f=e.map f) {k:Nat}(B:k<e.length):f (xs.getD k d)=f (e.getD k d):=by
  have E:xs.length=e.length:=by simpa using congrArg List.length h
  have D:(xs.map f)[k]? = (e.map f)[k]?:=by rw[h]
  rw[List.getElem?_map,List.getElem?_map,List.getElem?_eq_getElem O,List.getElem?_eq_getElem B] at D
  rw[getD_eq_getElem?_getD,getD_eq_getElem?_getD,List.getElem?_eq_getElem O,List.getElem?_eq_getElem B]
  simpa using D
theorem uN {α β:Type}{f:α→β}{xs e:List α}(h:xs.map f=e.map f) {s:α}(B:s∈xs):∃r∈e,f r=f s:=by
  have D:f s∈e.map f:=h▸List.mem_map.2 ⟨s,B,rfl⟩
  exact List.mem_map.1 D
def mpL (tos:List Int) (l:Int):Int:=if l % 2=0 then tos.getD (l / 2).toNat 0 else xr (tos.getD (l / 2).toNat 0)
theorem Bt {tos:List Int}{l:Int}(h0:0≤tos.getD (l / 2).toNat 0) (h1:tos.getD (l / 2).toNat 0<4294967296):bits .xor .i64 (tos.getD (l / 2).toNat 0) (l % 2)=mpL tos l:=by
  unfold mpL
  rcases(show l % 2=0∨l % 2=1 by omega) with e|e
  · rw [e, if_pos rfl]
    have hz:∀a:Int,0≤a→a<4294967296→bits .xor .i64 a 0=a:=fun a h0 h1=>by
      have:=Bit.xor_int a 0 h0 (by omega) (by omega) (by omega)
      rw[this];simp;omega
    exact hz _ h0 h1
  · rw[e,if_neg (by decide)];exact Gm h0 h1
def MapOk (tos:List Int) (c m:Int):Prop:=(tos.length:Int)=c∧∀k,k<tos.length→LtOk (tos.getD k 0) m
theorem MapOk.lit {e:List Int}{c m:Int}(h:MapOk e c m) {l:Int}(D:LtOk l c):LtOk (e.getD (l / 2).toNat 0) m∧LtOk (mpL e l) m:=by
  have E:=h.1
  unfold LtOk at D
  have B:=h.2 (l / 2).toNat O
  refine⟨B,?_⟩
  unfold mpL;split
  · exact B
  · exact xr_ok B
theorem MapOk.up {e:List Int}{c m m':Int}(h:MapOk e c m) (D:m≤m'):MapOk e c m':=⟨h.1,fun k B=>⟨(h.2 k B).1,by have:=(h.2 k B).2;omega⟩⟩
theorem MapOk.app {e:List Int}{c m x:Int}(h:MapOk e c m) (B:LtOk x m):MapOk (e++[x]) (c+1) m:=⟨by rw[length_append,length_singleton];have:=h.1;omega,fun k D=>by
  rw[length_append,length_singleton] at D
  by_cases c:k<e.length
  · rw[gM c];exact h.2 k c
  · rw[hC O,show k-e.length=0 by omega];exact B⟩
def mpS (tos lits:List Int):List Int:=lits.map (mpL tos)
theorem yG {B:List Int}{c m:Int}(h:MapOk B c m) {e:List Int}(D:∀x∈e,LtOk x c):∀x∈mpS B e,LtOk x m:=fun x E=>by
  obtain⟨l,G,rfl⟩:=List.mem_map.1 E
  exact(h.lit (D l G)).2
def evs2 (k:Nat):List Int:=(List.range k).map fun i:Nat=>2*(i:Int)
theorem Gd (k:Nat):evs2 k++[2*(k:Int)]=evs2 (k+1):=by unfold evs2;rw[List.range_succ,map_append];rfl
theorem vG (k:Nat):(evs2 k).length=k:=by simp[evs2]
theorem Ep {k:Nat}{m:Int}(h:(k:Int)≤m):MapOk (evs2 k) k m:=⟨by rw[vG],fun j B=>by
  rw[vG] at B
  have e:(evs2 k).getD j 0=2*(j:Int):=by
    unfold evs2
    rw[getD_eq_getElem?_getD,List.getElem?_map,List.getElem?_range B];rfl
  rw[e];unfold LtOk;omega⟩
structure Skel (n n2:Nt):Prop where
  ins:n2.ins=n.ins
  ss:n2.ss.map sqk=n.ss.map sqk
theorem Skel.fst {n e:Nt}(h:Skel n e):e.fst=n.fst:=by show 1+e.ins+(e.ss.length:Int)=1+n.ins+n.ss.length;rw[h.ins,xO h.ss]
theorem Skel.len {n e:Nt}(h:Skel n e):e.ss.length=n.ss.length:=xO h.ss
theorem Skel.sq {n B:Nt}(h:Skel n B) (D:∀s∈n.ss,SqOk s):∀s∈B.ss,SqOk s:=fun s E=>by
  obtain⟨r,G,e⟩:=uN h.ss E
  simp only[sqk,Prod.mk.injEq] at e
  exact⟨by rw[←e.1,←e.2.1,←e.2.2];exact(D r G).kind⟩
theorem Skel.trans {a b c:Nt}(h:Skel a b) (e:Skel b c):Skel a c:=⟨e.ins.trans h.ins,e.ss.trans h.ss⟩
theorem pA {zs B:List Sq}(h:zs.map sqv=B.map sqv):zs.map sqk=B.map sqk:=by
  have e:sqk=(fun p:Int×Int×List Int=>(p.1,p.2.1,p.2.2.length)) ∘ sqv:=rfl
  rw[e,←List.map_map,←List.map_map,h]
structure Grew (n n2:Nt) (x:Int):Prop where
  sk:Skel n n2
  ok:NtOk n2
  l0:n.gs.length≤n2.gs.length
  l1:n2.gs.length≤n.gs.length+1
  lit:LtOk x n2.cnt
theorem Grew.cnt {n e:Nt}{x:Int}(h:Grew n e x):n.cnt≤e.cnt:=by show n.fst+(n.gs.length:Int)≤e.fst+e.gs.length;have:=h.l0;rw[h.sk.fst];omega
theorem vD {α:Type}(f:α→List Value) (xs:List α) (h:∀r u,u∈f r→u.oneCell'=true):∀q∈xs.flatMap f,q.oneCell'=true:=fun q e=>by
  obtain⟨r, -,B⟩:=List.mem_flatMap.1 e
  exact h r q B
structure CopyOf (n n2:Nt):Prop where
  ins:n2.ins=n.ins
  gs:n2.gs=n.gs
  os:n2.os=n.os
  ss:n2.ss.map sqv=n.ss.map sqv
theorem CopyOf.sk {n e:Nt}(h:CopyOf n e):Skel n e:=⟨h.ins,pA h.ss⟩
theorem CopyOf.cnt {n e:Nt}(h:CopyOf n e):e.cnt=n.cnt:=by show e.fst+(e.gs.length:Int)=n.fst+n.gs.length;rw[h.sk.fst,h.gs]
theorem CopyOf.ok {n B:Nt}(h:CopyOf n B) (e:NtOk n):NtOk B:=
  ⟨by rw[h.ins];exact e.i0,by rw[h.ins];exact e.i1,by rw[h.sk.len];exact e.s1,by rw[h.gs];exact e.a1,by rw[h.os];exact e.o1,h.sk.sq e.sq,fun s E=>by
    obtain⟨r,G,D⟩:=uN h.ss E
    simp only[sqv,Prod.mk.injEq] at D
    rw[←D.2.2,h.cnt];exact e.xs r G,by rw[h.gs,h.sk.fst];exact e.an,by rw[h.os,h.cnt];exact e.ou⟩
theorem CopyOf.same {n e:Nt}(h:CopyOf n e) (B:NtOk n) {x:Int}(D:LtOk x n.cnt):Grew n e x:=⟨h.sk,h.ok B,by rw[h.gs];exact Nat.le_refl _,by rw[h.gs];omega,by rw[h.cnt];exact D⟩
theorem NtOk.add {n:Nt}(e:NtOk n) {a b:Int}(G:LtOk a n.cnt) (J:LtOk b n.cnt) (X:n.gs.length<300) (v:Value):NtOk { n with av:=v,gs:=n.gs++[An.mk a b] }:=by
  have D:({ n with av:=v,gs:=n.gs++[An.mk a b] }:Nt).cnt=n.cnt+1:=by show 1+n.ins+(n.ss.length:Int)+((n.gs++[An.mk a b]).length:Int)=1+n.ins+n.ss.length+n.gs.length+1;rw[length_append,length_singleton];omega
  have E:∀x,LtOk x n.cnt→LtOk x (n.cnt+1):=fun x h=>⟨h.1,by have:=h.2;omega⟩
  refine⟨e.i0,e.i1,e.s1,by show(n.gs++[An.mk a b]).length≤300;rw[length_append,length_singleton];omega,e.o1,e.sq,fun s K x B=>by rw[D];exact E _ (e.xs s K x B),fun k M=>?_,fun x B=>by rw[D];exact E _ (e.ou x B)⟩
  show LtOk ((n.gs++[An.mk a b]).getD k an0).a (n.fst+k)∧LtOk ((n.gs++[An.mk a b]).getD k an0).b (n.fst+k)
  have U:k<n.gs.length+1:=by have:k<(n.gs++[An.mk a b]).length:=M;rwa [length_append,length_singleton] at this
  by_cases c:k<n.gs.length
  · rw[gM c];exact e.an k c
  · rw[hC O,show k-n.gs.length=0 by omega,show k=n.gs.length by omega];exact⟨G,J⟩
theorem CopyOf.put {n e:Nt}(h:CopyOf n e) (B:NtOk n) {a b:Int}(M:LtOk a n.cnt) (U:LtOk b n.cnt) (E:n.gs.length<300) (v:Value):Grew n { e with av:=v,gs:=e.gs++[An.mk (min a b) (if a<b then b else a)] } (2*n.cnt):=by
  have G:=h.ok B
  have D:LtOk (min a b) n.cnt∧LtOk (if a<b then b else a) n.cnt:=by unfold LtOk at *;omega
  refine⟨⟨h.ins,pA h.ss⟩,G.add (by rw[h.cnt];exact D.1) (by rw[h.cnt];exact D.2) (by rw[h.gs];exact E) v,?_,?_,?_⟩
  · show n.gs.length≤(e.gs++_).length;rw[length_append,h.gs];omega
  · show(e.gs++_).length≤n.gs.length+1;rw[length_append,length_singleton,h.gs];exact Nat.le_refl _
  · have J:({ e with av:=v,gs:=e.gs++[An.mk (min a b) (if a<b then b else a)] }:Nt).cnt=n.cnt+1:=by
      show e.fst+((e.gs++_).length:Int)=n.fst+n.gs.length+1;rw[length_append,length_singleton,h.gs,h.sk.fst];omega
    rw[J]
    have K:0≤n.cnt:=by have:=B.i0;show 0≤1+n.ins+(n.ss.length:Int)+n.gs.length;omega
    unfold LtOk;omega
theorem Et {n:Nt}(h:NtOk n):1≤n.fst∧n.fst≤33∧n.fst≤n.cnt∧n.cnt≤333∧n.cnt=n.fst+n.gs.length∧n.fst=1+n.ins+n.ss.length:=by
  have:=h.i0;have:=h.i1;have:=h.s1;have:=h.a1
  have e:n.cnt=n.fst+n.gs.length:=by unfold Nt.cnt Nt.fst;omega
  have B:n.fst=1+n.ins+n.ss.length:=rfl
  omega
theorem Jm {e:List Sq}{k:Nat}{s:Sq}(h:sqk s=sqk (e.getD k sq0)) (B:k<e.length):(e.set k s).map sqk=e.map sqk:=by
  rw[List.map_set,h]
  have:(e.map sqk)[k]? = some (sqk (e.getD k sq0)):=by rw[List.getElem?_map,getD_eq_getElem?_getD,List.getElem?_eq_getElem B];rfl
  exact mF this
theorem vQ (h:Int) (B:Int) (e:Value) (D:e.oneCell'=true):Tryz.prog.built 148 [(0,.int .i64 h),(1,.int .i64 B),(2,e)]=some #[.int .i64 h,.int .i64 B,e]:=by
  (cases e<;>first|(exact absurd D Bool.false_ne_true)|kernel_rfl)
theorem Dh (D:Int) (e:Value) (h:Value) (B:Value) (E:e.oneCell'=true) (G:h.oneCell'=true) (J:B.oneCell'=true):Tryz.prog.built 125 [(0,.int .i64 D),(1,e),(2,h),(3,B)]=some #[.int .i64 D,e,h,B]:=by
  (cases e<;>first|(exact absurd E Bool.false_ne_true)|(cases h<;>first|(exact absurd G Bool.false_ne_true)|(cases B<;>first|(exact absurd J Bool.false_ne_true)|kernel_rfl)))
theorem kG {P:Program}{N:Nat}{w0:World}{l:List HP}{env:List (Nat×Value)}{o:Oper}{t:TypeId}{ps:Array (Nat×Operand)}{vs:List (Nat×Value)}{cs:Array Value}(h:o.op=.build t ps)
    (B:ps.toList.mapM (fun p=>(ev env p.2).map fun v=>(p.1,v))=some vs) (D:∀w,Mem w0 l w→P.built t vs=some cs):RunV P N w0 l env o (.agg cs):=fun a w e=>dG h B (D w e.mem) a w e
theorem nI (B:List Sq) (v:Value) (w:World) (X:RdsW w v 3 B.length (B.flatMap sqC)) (hx:RdsSqs w B) (hl:B.length≤20) (h4:∀s∈B,s.xs.length≤4) :
   Calls Tryz.prog 139 #[v] w (Ret w (fun u_ G=>∃(ps:List HP) (zs:List Sq),G=[rS9 148 3 u_ zs sqC,bigE ps]∧(∀w,(bigE ps).holds w→RdsSqs w zs)∧zs.map sqv=B.map sqv)):=by
 refine aY (N:=34) (args:=[v]) Tryz.func139 A A (cF 1 A (dW ?_))
 refine cH A (bU (s:=3) A Tryz.underlying105 A) fun g1=>go ?_
 refine fK _ hF ?_
 refine mS (α:=Nat) (β:=List Sq) (γ:=Value) (δ:=List HP) [0,2] A (fun i zs Y ps=>[bigE ps,rS9 148 3 Y zs sqC]) (fun i zs Y ps=>[(3,Y),(4,jI (i:Int))]) (fun i zs Y ps=>i≤B.length∧zs.map sqv=(B.take i).map sqv∧∀w,(bigE ps).holds w→RdsSqs w zs) (fun i zs Y ps=>B.length-i) 0 [] _ _ ⟨O,AI,fun w _=>RdsSqs.nil w⟩ (bV A) (cZ A) fun i zs Y ps aa=>go ?_
 obtain⟨hi,hz,a3⟩:=aa
 have ao:zs.length=i:=by have h9:=xN hz;rw[length_take] at h9;omega
 refine aW A A A A A A (fun h3=>go ?_) (fun h3=>go ?_)
 have ap:=h4 _ (dJ (d:=sq0) (show i<B.length by omega))
 refine gZ (l:=[bigE ps,rS9 148 3 Y zs sqC]) A 20 [0,1,2,3,4,5,6,7,8,9,10,11,12,13,14,15,16,17,18,19] (List.take 20 _) (List.drop 20 _) [[],[],[],[1,2],[3],[4],[],[],[6,7],[8],[9],[],[],[],[12,13],[14],[15],[11,16],[5,10,17],[17,18]] [some 12,some 13,some 14,some 15,some 16,some 17,some 18,some 19,some 20,some 21,some 22,some 23,some 24,some 25,some 26,some 27,some 28,some 29,some 30,some 31] (fun i_ a4 K G=>match i_ with|0=>K=Y∧G=[]|1=>K=v∧G=[]|2=>K=jI (i:Int)∧G=[]|3=>K=elP v ((i:Int).toNat*3)∧G=[]|4=>K=elP v ((i:Int).toNat*3+0)∧G=[]|5=>K=jI ((B.getD i sq0).kd)∧G=[]|6=>K=v∧G=[]|7=>K=jI (i:Int)∧G=[]|8=>K=elP v ((i:Int).toNat*3)∧G=[]|9=>K=elP v ((i:Int).toNat*3+1)∧G=[]|10=>K=jI ((B.getD i sq0).it)∧G=[]|11=>IsRow 3 1 0 ([]) K G|12=>K=v∧G=[]|13=>K=jI (i:Int)∧G=[]|14=>K=elP v ((i:Int).toNat*3)∧G=[]|15=>K=elP v ((i:Int).toNat*3+2)∧G=[]|16=>K=(B.getD i sq0).iv∧G=[]|17=>(∃a5,G=[a5]∧(fun u_ G=>G=rowE 3 1 u_ (((B.getD i sq0).xs).length) (mI ((B.getD i sq0).xs))) K a5)|18=>K=.agg #[jI ((B.getD i sq0).kd),jI ((B.getD i sq0).it),(gV9 a4 2)]∧G=[]|19=>IsRow 148 3 1 ([jI ((B.getD i sq0).kd),jI ((B.getD i sq0).it),(gV9 a4 0)]) K G|_=>True) [[],[],[],[1,2],[3],[4],[],[],[6,7],[8],[9],[],[],[],[12,13],[14],[15],[16],[5,10,17],[17,18]] [none,none,none,none,none,none,none,none,none,none,none,none,none,none,none,none,none,some 11,none,none] [] [0,1,2,3,4,5,6,7,8,9,10,12,13,14,15,16,17,18,19] 22 (take_append_drop 20 _).symm F F F A A ?_ ?_
 refine⟨?_,?_,?_,?_,?_,?_,?_,?_,?_,?_,?_,?_,?_,?_,?_,?_,?_,?_,?_,?_,trivial⟩
 intro vf J E e
 refine cD [] [] A (aZ (aD [3] A) ?_)
 exact aK (aU A)
 intro vf J E e
 refine cD [] [] A (aZ (aD [0] A) ?_)
 exact aK (aU A)
 intro vf J E e
 refine cD [] [] A (aZ (aD [4] A) ?_)
 exact aK (aU A)
 intro vf J E e
 have e1:=e 1 V
 have e2:=e 2 V
 refine cD [1,2] [1,2] A (bC (aX 13 e1.1 (aX 14 e2.1 (aA _))) z9 ?_)
 exact aK (cV 3 A A A A (aE X))
 intro vf J E e
 have e3:=e 3 V
 refine cD [3] [3] A (bC (aX 15 e3.1 (aA _)) z9 ?_)
 exact aK (bR (k0:=0) A A A (aE X) O)
 intro vf J E e
 have e4:=e 4 V
 refine cD [4] [4] A (bC (aX 16 e4.1 (aA _)) z9 ?_)
 exact aK (aL (u:=jI ((B.getD i sq0).kd)) A A A (aE X) ((dC sqC 3 (fun _=>A) B sq0 (show i<_ by omega) V).trans A))
 intro vf J E e
 refine cD [] [] A (aZ (aD [0] A) ?_)
 exact aK (aU A)
 intro vf J E e
 refine cD [] [] A (aZ (aD [4] A) ?_)
 exact aK (aU A)
 intro vf J E e
 have e6:=e 6 V
 have e7:=e 7 V
 refine cD [6,7] [6,7] A (bC (aX 18 e6.1 (aX 19 e7.1 (aA _))) z9 ?_)
 exact aK (cV 3 A A A A (aE X))
 intro vf J E e
 have e8:=e 8 V
 refine cD [8] [8] A (bC (aX 20 e8.1 (aA _)) z9 ?_)
 exact aK (bR (k0:=1) A A A (aE X) O)
 intro vf J E e
 have e9:=e 9 V
 refine cD [9] [9] A (bC (aX 21 e9.1 (aA _)) z9 ?_)
 exact aK (aL (u:=jI ((B.getD i sq0).it)) A A A (aE X) ((dC sqC 3 (fun _=>A) B sq0 (show i<_ by omega) V).trans A))
 intro vf J E e
 refine cD [] [] A (bC (aA _) z9 ?_)
 exact bU (s:=1) A z8 A
 intro vf J E e
 refine cD [] [] A (aZ (aD [0] A) ?_)
 exact aK (aU A)
 intro vf J E e
 refine cD [] [] A (aZ (aD [4] A) ?_)
 exact aK (aU A)
 intro vf J E e
 have ab:=e 12 V
 have ac:=e 13 V
 refine cD [12,13] [12,13] A (bC (aX 24 ab.1 (aX 25 ac.1 (aA _))) z9 ?_)
 exact aK (cV 3 A A A A (aE X))
 intro vf J E e
 have ad:=e 14 V
 refine cD [14] [14] A (bC (aX 26 ad.1 (aA _)) z9 ?_)
 exact aK (bR (k0:=2) A A A (aE X) O)
 intro vf J E e
 have ae:=e 15 V
 refine cD [15] [15] A (bC (aX 27 ae.1 (aA _)) z9 ?_)
 exact aK (aL (u:=(B.getD i sq0).iv) A A A (aE X) ((dC sqC 3 (fun _=>A) B sq0 (show i<_ by omega) V).trans A))
 intro vf J E e
 obtain⟨g4,U,a0⟩:=e 11 V
 have a6:=e 16 V
 refine Or.inl ⟨A,?_⟩
 show RunM _ _ _ (J 11) (([16]:List Nat).flatMap J++_) (envOf3 _ vf [11,16]++_) _ _
 rw[a0];rw[U]
 exact eJ (aX 23 U (aX 28 a6.1 (aA _))) (by simp only[a6.2,fS]<;>rfl) (mO (d:=0) (z:=jI 0) (bytes:=8) (n':=((B.getD i sq0).xs).length) (xs':=(mI ((B.getD i sq0).xs))) A z8 A A A A (aE (hx.at (k:=i) O)) (bI _) AD (Nat.zero_add _) (nil_append _))
 intro vf J E e
 have e5:=e 5 V
 have a7:=e 10 V
 obtain⟨p6,M,R7⟩:=e 17 V
 obtain⟨Z,D⟩:=dU (vf 17)
 rw[D] at R7
 subst R7
 refine cD [5,10,17] [5,10,17] A (bQ (aX 17 e5.1 (aX 22 a7.1 (aX 29 D (aA _)))) (by simp only[M,D,e5.2,a7.2,fS]<;>rfl) ?_)
 exact dM (aK (kG (cs:=#[jI ((B.getD i sq0).kd),jI ((B.getD i sq0).it),Z]) A A (fun w hm=>vQ ((B.getD i sq0).kd) ((B.getD i sq0).it) Z ((aB 0 A w hm).one)))) (fun _ _ h=>⟨h.1.trans (by show _=(.agg #[jI ((B.getD i sq0).kd),jI ((B.getD i sq0).it),(vf 17)]:Value);first|(rw[D];done)|(rw[D];rfl)),h.2⟩)
 intro vf J E e
 obtain⟨p6,M,R7⟩:=e 17 V
 obtain⟨Z,D⟩:=dU (vf 17)
 rw[D] at R7
 subst R7
 have a2:(vf 18)=.agg #[jI ((B.getD i sq0).kd),jI ((B.getD i sq0).it),(vf 17)]∧(J 18)=[]:=e 18 V
 rw[D] at a2
 refine cD [17,18] [17,18] A (bQ (aX 30 a2.1 (aA _)) (by simp only[M,D,a2.2,fS]<;>rfl) ?_)
 exact dM (aH (z:=.agg #[jI 0,jI 0,.slice none 0 0]) (s:=3) (cs:=[jI ((B.getD i sq0).kd),jI ((B.getD i sq0).it),Z]) A Tryz.underlying105 A V A F A) (fun K G h=>by show IsRow 148 3 1 ([jI ((B.getD i sq0).kd),jI ((B.getD i sq0).it),(vf 17)]) K G;rw[D];exact h)
 intro vf J E e
 have e0:=e 0 V
 obtain⟨g4,U,a0⟩:=e 11 V
 obtain⟨p6,M,R7⟩:=e 17 V
 obtain⟨Z,D⟩:=dU (vf 17)
 rw[D] at R7
 subst R7
 have a8:IsRow 148 3 1 ([jI ((B.getD i sq0).kd),jI ((B.getD i sq0).it),(vf 17)]) (vf 19) (J 19):=e 19 V
 rw[D] at a8
 obtain⟨g8,a1,a9⟩:=a8
 have q0:=e 0 V
 have q1:=e 1 V
 have q2:=e 2 V
 have q3:=e 3 V
 have q4:=e 4 V
 have q5:=e 5 V
 have q6:=e 6 V
 have q7:=e 7 V
 have q8:=e 8 V
 have q9:=e 9 V
 have af:=e 10 V
 have ag:=e 12 V
 have ah:=e 13 V
 have ai:=e 14 V
 have aj:=e 15 V
 have ak:=e 16 V
 have al:=e 18 V
 refine cL (bE [9,4,3,2,0] _ (aX 12 e0.1 (aX 31 a1 (aA _))) A) (by simp only[M,D,a9,a1,q0.2,q1.2,q2.2,q3.2,q4.2,q5.2,q6.2,q7.2,q8.2,q9.2,af.2,ag.2,ah.2,ai.2,aj.2,ak.2,al.2,fS]<;>rfl) ?_
 simp only[drop_succ_cons,drop_zero]
 refine eE (i:=0) A (fun am=>?_)
 refine bT (i:=3) (z:=.agg #[jI 0,jI 0,.slice none 0 0]) (bytes:=40) A A A A Tryz.underlying105 F A A A A (aB 1 A) (aC A (aC A (aC am bH))) AC (bK zs [(Sq.mk ((B.getD i sq0).kd) ((B.getD i sq0).it) Z (B.getD i sq0).xs)]) (dP sqC zs (Sq.mk ((B.getD i sq0).kd) ((B.getD i sq0).it) Z (B.getD i sq0).xs) _ A) (fun _=>A) fun an=>go ?_
 refine bN 4 [3,0,2] A A V ?_
 refine dN 2 A ?_
 exact dH (i+1) (zs++[(Sq.mk ((B.getD i sq0).kd) ((B.getD i sq0).it) Z (B.getD i sq0).xs)]) an [bigE ps,rowE 3 1 Z (((B.getD i sq0).xs).length) (mI ((B.getD i sq0).xs))] ⟨O,by rw[map_append,hz,hY sq0 (show i<B.length by omega),map_append];rfl,fun w hw=>(a3 w (bF hw eG)).app (cI (bF hw (fW eG)))⟩ O (bV rfl) (cZ rfl)
 refine bN 2 [0,1] A A V ?_
 exact bM (post:=[rS9 148 3 Y zs sqC,bigE ps]) rfl rfl (.refl _) ⟨_,zs,rfl,a3,by rw[hz,List.take_of_length_le O]⟩
theorem yN (n:Nt) (w:World) (hr:RdsNt w n) (ac:n.ss.length≤20) (aq:n.gs.length≤400) (ar:n.os.length≤40) (q4:∀s∈n.ss,s.xs.length≤4) :
   Calls Tryz.prog 140 #[.agg #[.int .i64 n.ins,n.sv,n.av,n.ov]] w (Ret w (fun Y B=>∃(ps:List HP) (m:Nt),Y=m.agg∧B=[rS9 148 3 m.sv m.ss sqC,rS9 145 2 m.av m.gs anC,rI9 3 m.ov m.os,bigE ps]∧(∀w,(bigE ps).holds w→RdsSqs w m.ss)∧(m.sv.oneCell'=true∧m.av.oneCell'=true∧m.ov.oneCell'=true)∧CopyOf n m)):=by
 have ao:n.cnt=1+n.ins+n.ss.length+n.gs.length:=rfl
 have ap:n.fst=1+n.ins+n.ss.length:=rfl
 refine aY (N:=17) (args:=[.agg #[jI n.ins,n.sv,n.av,n.ov]]) Tryz.func140 A A (dW ?_)
 refine cU A (cE A A) fun b1=>?_
 refine cU A (bY (z:=.agg #[jI 0,.slice none 0 0,.slice none 0 0,.slice none 0 0]) A A) fun b2=>go ?_
 refine gZ (l:=[eB9 b2,nB9 b1 n]) A 13 [0,1,2,3,4,5,6,7,8,9,10,11,12] (List.take 13 _) (List.drop 13 _) [[],[0],[],[2],[3],[],[],[6],[5,7],[],[],[10],[9,11]] [some 3,some 4,some 5,some 6,some 7,some 8,some 9,some 10,some 11,some 12,some 13,some 14,some 15] (fun i_ au G B=>match i_ with|0=>G=.pointer (some ⟨b1,0+0,none⟩)∧B=[]|1=>G=jI n.ins∧B=[]|2=>G=.pointer (some ⟨b1,0+1,none⟩)∧B=[]|3=>G=n.sv∧B=[]|4=>(fun Y B=>∃(ps:List HP) (zs:List Sq),B=[rS9 148 3 Y zs sqC,bigE ps]∧(∀w,(bigE ps).holds w→RdsSqs w zs)∧zs.map sqv=n.ss.map sqv) G B|5=>IsRow 145 2 0 ([]) G B|6=>G=.pointer (some ⟨b1,0+2,none⟩)∧B=[]|7=>G=n.av∧B=[]|8=>(∃K,B=[K]∧(fun Y B=>B=rS9 145 2 Y n.gs anC) G K)|9=>IsRow 3 1 0 ([]) G B|10=>G=.pointer (some ⟨b1,0+3,none⟩)∧B=[]|11=>G=n.ov∧B=[]|12=>(∃K,B=[K]∧(fun Y B=>B=rI9 3 Y n.os) G K)|_=>True) [[],[0],[],[2],[3],[],[],[6],[7],[],[],[10],[11]] [none,none,none,none,none,none,none,none,some 5,none,none,none,some 9] [] [0,1,2,3,4,6,7,8,10,11,12] 15 (take_append_drop 13 _).symm F F F A A ?_ ?_
 refine⟨?_,?_,?_,?_,?_,?_,?_,?_,?_,?_,?_,?_,?_,trivial⟩
 intro vf D h e
 refine cD [] [] A (aZ (aD [1] A) ?_)
 exact aK (fY 0 A A A)
 intro vf D h e
 have e0:=e 0 V
 refine cD [0] [0] A (bC (aX 3 e0.1 (aA _)) z9 ?_)
 exact aK (bJ A A A (bA 1 A A))
 intro vf D h e
 refine cD [] [] A (aZ (aD [1] A) ?_)
 exact aK (fY 1 A A A)
 intro vf D h e
 have e2:=e 2 V
 refine cD [2] [2] A (bC (aX 5 e2.1 (aA _)) z9 ?_)
 exact aK (bJ A A A (bA 1 A A))
 intro vf D h e
 have e3:=e 3 V
 refine cD [3] [3] A (bC (aX 6 e3.1 (aA _)) z9 ?_)
 exact aF A A (fun w J=>nI n.ss _ w (hr.sq.below J.bel) (fun s hs=>(hr.xs s hs).below J.bel) ac q4)
 intro vf D h e
 refine cD [] [] A (bC (aA _) z9 ?_)
 exact bU (s:=2) A Tryz.underlying123 A
 intro vf D h e
 refine cD [] [] A (aZ (aD [1] A) ?_)
 exact aK (fY 2 A A A)
 intro vf D h e
 have e6:=e 6 V
 refine cD [6] [6] A (bC (aX 9 e6.1 (aA _)) z9 ?_)
 exact aK (bJ A A A (bA 1 A A))
 intro vf D h e
 obtain⟨g6,Z,a3⟩:=e 5 V
 have e7:=e 7 V
 refine Or.inl ⟨A,?_⟩
 show RunM _ _ _ (D 5) (([7]:List Nat).flatMap D++_) (envOf3 _ vf [5,7]++_) _ _
 rw[a3];rw[Z]
 exact eJ (aX 8 Z (aX 10 e7.1 (aA _))) (by simp only[e7.2,fS]<;>rfl) (mO (d:=0) (z:=.agg #[jI 0,jI 0]) (bytes:=16) (n':=n.gs.length) (xs':=(n.gs.flatMap anC)) A Tryz.underlying123 A A A A (aE hr.an) (vD anC n.gs (fun r u hu=>by simp[anC] at hu;first|(subst hu;rfl)|(rcases hu with rfl|rfl<;>rfl)|(rcases hu with rfl|rfl|rfl<;>rfl)|(rcases hu with rfl|rfl|rfl|rfl<;>rfl))) AL (Nat.zero_add _) (nil_append _))
 intro vf D h e
 refine cD [] [] A (bC (aA _) z9 ?_)
 exact bU (s:=1) A z8 A
 intro vf D h e
 refine cD [] [] A (aZ (aD [1] A) ?_)
 exact aK (fY 3 A A A)
 intro vf D h e
 have ad:=e 10 V
 refine cD [10] [10] A (bC (aX 13 ad.1 (aA _)) z9 ?_)
 exact aK (bJ A A A (bA 1 A A))
 intro vf D h e
 obtain⟨ae,a0,a4⟩:=e 9 V
 have a5:=e 11 V
 refine Or.inl ⟨A,?_⟩
 show RunM _ _ _ (D 9) (([11]:List Nat).flatMap D++_) (envOf3 _ vf [9,11]++_) _ _
 rw[a4];rw[a0]
 exact eJ (aX 12 a0 (aX 14 a5.1 (aA _))) (by simp only[a5.2,fS]<;>rfl) (mO (d:=0) (z:=jI 0) (bytes:=8) (n':=n.os.length) (xs':=(mI n.os)) A z8 A A A A (aE hr.ou) (bI _) AD (Nat.zero_add _) (nil_append _))
 intro vf D h e
 have e1:=e 1 V
 obtain⟨U,a1⟩:=dU (vf 4)
 obtain⟨p4,a6⟩:=dU (D 4)
 have R5:=e 4 V
 rw[a1,a6] at R5
 obtain⟨ps,zs,rfl,af,ag⟩:=R5
 obtain⟨g6,Z,a3⟩:=e 5 V
 obtain⟨p8,ah,R9⟩:=e 8 V
 obtain⟨X,a2⟩:=dU (vf 8)
 rw[a2] at R9
 subst R9
 obtain⟨ae,a0,a4⟩:=e 9 V
 obtain⟨aw,a7,a8⟩:=e 12 V
 obtain⟨E,M⟩:=dU (vf 12)
 rw[M] at a8
 subst a8
 have q0:=e 0 V
 have q1:=e 1 V
 have q2:=e 2 V
 have q3:=e 3 V
 have q6:=e 6 V
 have q7:=e 7 V
 have ai:=e 10 V
 have aj:=e 11 V
 refine cL (bE [2,1,0] _ (aX 4 e1.1 (aX 7 a1 (aX 11 a2 (aX 15 M (aA _))))) A) (by simp only[a6,a1,ah,a2,a7,M,q0.2,q1.2,q2.2,q3.2,q6.2,q7.2,ai.2,aj.2,fS]<;>rfl) ?_
 simp only[drop_succ_cons,drop_zero]
 refine aN A (kG (cs:=#[jI n.ins,U,X,E]) A A (fun w J=>Dh n.ins U X E ((aB 0 A w J).one) ((aB 2 A w J).one) ((aB 3 A w J).one))) (eE (i:=3) A (fun a9=>?_))
 refine eE (i:=2) A (fun aa=>?_)
 refine eE (i:=0) A (fun ab=>?_)
 refine cA (cs':=#[jI n.ins,U,X,E]) (i:=4) (off:=0) (us:=[jI n.ins,U,X,E]) A A A A A A A (aC A (aC ab (aC aa (aC a9 bH)))) A A A (go ?_)
 refine gC (fun w J=>(aB 0 A w J).one) (fun ak=>?_)
 refine gC (fun w J=>(aB 3 A w J).one) (fun al=>?_)
 refine gC (fun w J=>(aB 2 A w J).one) (fun am=>?_)
 refine bN 6 [5,4,1,3,2,0] A A V ?_
 exact eQ (rs:=[.cell 2 125]) (vs:=[.agg #[jI n.ins,U,X,E]]) (post:=[rS9 148 3 U zs sqC,rS9 145 2 X n.gs anC,rI9 3 E n.os,bigE ps]) A ⟨⟨b2,0,[jI n.ins,U,X,E],A,A,F,F,aM 4 A 0 A⟩,trivial⟩ A (eA [0,0,0,0] A) ⟨_,(Nt.mk n.ins U X E zs n.gs n.os),A,A,af,⟨ak,am,al⟩,⟨A,A,A,ag⟩⟩
theorem Ret.conv {w:World}{R R':Value→List HP→Prop}(h:∀u p,R u p→∃q,R' u q∧∀w0 D,Mem w0 p D→Mem w0 q D):∀e B,Ret w R e B→Ret w R' e B:=fun e B ⟨v,post,E,G,J⟩=>by
  obtain⟨q,K,M⟩:=h v post G
  exact⟨v,q,E,K,M _ _ J⟩
theorem Fp {w0 w:World}{a b c d:HP}(h:Mem w0 [a,b,c,d] w):Mem w0 [a,b,bigE [d,c]] w:=by
  have e:Mem w0 ([d,c]++[a,b]) w:=h.perm (by exact(List.perm_append_comm (l₁:=[a,b]) (l₂:=[c,d])).trans (.swap _ _ _))
  exact e.big.perm (by exact(List.perm_append_comm (l₁:=[bigE [d,c]]) (l₂:=[a,b])))
theorem yO (n:Nt) (w:World) (J:RdsNt w n) (e:n.ss.length≤20) (h:n.gs.length≤400) (B:n.os.length≤40) (K:∀s∈n.ss,s.xs.length≤4):Calls Tryz.prog 140 #[.agg #[.int .i64 n.ins,n.sv,n.av,n.ov]] w (Ret w (fun M U=>∃(ps:List HP) (m:Nt),M=m.agg∧U=[rS9 148 3 m.sv m.ss sqC,rS9 145 2 m.av m.gs anC,bigE ps]∧(∀w,(bigE ps).holds w→RdsSqs w m.ss∧RdsW w m.ov 1 m.os.length (m.os.map (Value.int .i64)))∧(m.sv.oneCell'=true∧m.ov.oneCell'=true)∧CopyOf n m)):=
  (yN n w J e h B K).mono (Ret.conv fun u p ⟨ps,m,X,Y,Z,D,h5⟩=>⟨_,⟨_,m,X,rfl,fun w E=>⟨Z w (bF E mem_cons_self),cI (bF E (mem_cons_of_mem _ mem_cons_self))⟩,⟨D.1,D.2.2⟩,h5⟩,fun w0 w1 G=>Fp (by rw[Y] at G;exact G)⟩)
theorem Aq (n:Nt) (w:World) (h:RdsNt w n) (e:NtOk n):Calls Tryz.prog 140 #[.agg #[.int .i64 n.ins,n.sv,n.av,n.ov]] w (Ret w (fun B D=>∃(ps:List HP) (m:Nt),B=m.agg∧D=[rS9 148 3 m.sv m.ss sqC,rS9 145 2 m.av m.gs anC,bigE ps]∧(∀w,(bigE ps).holds w→RdsSqs w m.ss∧RdsW w m.ov 1 m.os.length (m.os.map (Value.int .i64)))∧(m.sv.oneCell'=true∧m.ov.oneCell'=true)∧CopyOf n m)):=
  yO n w h (by have:=e.s1;omega) (by have:=e.a1;omega) (by have:=e.o1;omega) (fun s E=>(e.sq s E).len)
theorem Bs (n:Nt) (x y:Int) (w:World) (hr:RdsNt w n) (U:NtOk n) (hx:LtOk x n.cnt) (hy:LtOk y n.cnt) (hl:n.gs.length<300) :
   Calls Tryz.prog 119 #[.agg #[.int .i64 n.ins,n.sv,n.av,n.ov],.int .i64 x,.int .i64 y] w (Ret w (fun u_ p_=>∃(ps:List HP) (m:Nt) (x:Int),u_=.tuple #[m.agg,.int .i64 x]∧p_=[rS9 148 3 m.sv m.ss sqC,bigE ps]∧(∀w,(bigE ps).holds w→NtRest w m)∧(m.sv.oneCell'=true∧m.av.oneCell'=true∧m.ov.oneCell'=true)∧Grew n m x)):=by
 have ag:=U.i0
 have ah:=U.i1
 have ai:=U.s1
 have aj:=U.a1
 have ak:=U.o1
 have ae:n.cnt=1+n.ins+n.ss.length+n.gs.length:=rfl
 have af:n.fst=1+n.ins+n.ss.length:=rfl
 obtain⟨al,am⟩:=id hx
 obtain⟨a6,ao⟩:=id hy
 refine aY (N:=99) (args:=[.agg #[jI n.ins,n.sv,n.av,n.ov],jI x,jI y]) Tryz.func119 A A (dW ?_)
 refine cU A (cE A A) fun b1=>?_
 refine cU A (bY (z:=.agg #[jI 0,.slice none 0 0,.slice none 0 0,.slice none 0 0]) A A) fun b2=>go ?_
 refine fF A A A (aF A A (fun w J=>Aq n w (hr.below J.bel) U)) fun v3 p4 R5=>?_
 obtain⟨ps,m,rfl,rfl,D,⟨e,B⟩,M⟩:=R5
 have ap:m.gs.length=n.gs.length:=by rw[M.gs]
 refine cU A (bY (z:=.agg #[jI 0,.slice none 0 0,.slice none 0 0,.slice none 0 0]) A A) fun b6=>?_
 refine eE (i:=2) A (fun X=>?_)
 refine cA (cs':=#[jI m.ins,m.sv,m.av,m.ov]) (i:=0) (off:=0) (us:=[jI m.ins,m.sv,m.av,m.ov]) A A A A A A A (aC A (aC e (aC X (aC B bH)))) A A A (go ?_)
 refine cM A (aF A A (fun w J=>aI (dK n w (hr.below J.bel) U))) (go ?_)
 refine cM A (aF A A (fun w J=>aI (gG n w (hr.below J.bel) U))) (go ?_)
 refine cM A (aF A A (fun w J=>aI (lR x n.cnt w hx O))) (go ?_)
 refine cM A (aF A A (fun w J=>aI (lR y n.cnt w hy O))) (go ?_)
 refine bZ A A A A A A (fun h8=>go ?_) (fun h8=>go ?_)
 refine cA (cs':=#[jI m.ins,m.sv,m.av,m.ov]) (i:=4) (off:=0) (us:=[jI m.ins,m.sv,m.av,m.ov]) A A A A A A A (aC A (aC e (aC X (aC B bH)))) A A A (go ?_)
 refine gC (fun w J=>(aB 2 A w J).one) (fun E=>?_)
 refine bN 6 [4,1,2,3] A A V ?_
 refine dN 2 A ?_
 refine bN 3 [2,0,1] A A V ?_
 exact eQ (rs:=[.cell 6 125,.tmp 7]) (vs:=[.agg #[jI m.ins,m.sv,m.av,m.ov],jI 0]) (post:=[rS9 148 3 m.sv m.ss sqC,bigE [bigE ps,rS9 145 2 m.av m.gs anC]]) A ⟨⟨b2,0,[jI m.ins,m.sv,m.av,m.ov],A,A,F,F,aM 2 A 0 A⟩,A,trivial⟩ A (eA [0,0] A) ⟨_,m,_,A,A,fun w G=>⟨(D w (bF G eG)).1,cI (bF G (fW eG)),(D w (bF G eG)).2⟩,⟨e,E,B⟩,M.same U (by unfold LtOk;omega)⟩
 refine bZ A A A A A A (fun h9=>go ?_) (fun h9=>go ?_)
 refine cA (cs':=#[jI m.ins,m.sv,m.av,m.ov]) (i:=4) (off:=0) (us:=[jI m.ins,m.sv,m.av,m.ov]) A A A A A A A (aC A (aC e (aC X (aC B bH)))) A A A (go ?_)
 refine gC (fun w J=>(aB 2 A w J).one) (fun E=>?_)
 refine bN 6 [4,1,2,3] A A V ?_
 refine dN 2 A ?_
 refine bN 3 [2,0,1] A A V ?_
 exact eQ (rs:=[.cell 6 125,.tmp 7]) (vs:=[.agg #[jI m.ins,m.sv,m.av,m.ov],jI 0]) (post:=[rS9 148 3 m.sv m.ss sqC,bigE [bigE ps,rS9 145 2 m.av m.gs anC]]) A ⟨⟨b2,0,[jI m.ins,m.sv,m.av,m.ov],A,A,F,F,aM 2 A 0 A⟩,A,trivial⟩ A (eA [0,0] A) ⟨_,m,_,A,A,fun w G=>⟨(D w (bF G eG)).1,cI (bF G (fW eG)),(D w (bF G eG)).2⟩,⟨e,E,B⟩,M.same U (by unfold LtOk;omega)⟩
 refine aN A (jU A V A A (r:=xr y) (Gm a6 O)) ?_
 refine bZ A A A A A A (fun a7=>go ?_) (fun a7=>go ?_)
 refine cA (cs':=#[jI m.ins,m.sv,m.av,m.ov]) (i:=4) (off:=0) (us:=[jI m.ins,m.sv,m.av,m.ov]) A A A A A A A (aC A (aC e (aC X (aC B bH)))) A A A (go ?_)
 refine gC (fun w J=>(aB 2 A w J).one) (fun E=>?_)
 refine bN 6 [4,1,2,3] A A V ?_
 refine dN 2 A ?_
 refine bN 3 [2,0,1] A A V ?_
 exact eQ (rs:=[.cell 6 125,.tmp 7]) (vs:=[.agg #[jI m.ins,m.sv,m.av,m.ov],jI 0]) (post:=[rS9 148 3 m.sv m.ss sqC,bigE [bigE ps,rS9 145 2 m.av m.gs anC]]) A ⟨⟨b2,0,[jI m.ins,m.sv,m.av,m.ov],A,A,F,F,aM 2 A 0 A⟩,A,trivial⟩ A (eA [0,0] A) ⟨_,m,_,A,A,fun w G=>⟨(D w (bF G eG)).1,cI (bF G (fW eG)),(D w (bF G eG)).2⟩,⟨e,E,B⟩,M.same U (by unfold LtOk;omega)⟩
 refine bZ A A A A A A (fun a8=>go ?_) (fun a8=>go ?_)
 refine cA (cs':=#[jI m.ins,m.sv,m.av,m.ov]) (i:=4) (off:=0) (us:=[jI m.ins,m.sv,m.av,m.ov]) A A A A A A A (aC A (aC e (aC X (aC B bH)))) A A A (go ?_)
 refine gC (fun w J=>(aB 2 A w J).one) (fun E=>?_)
 refine bN 6 [4,1,2,3] A A V ?_
 refine dN 2 A ?_
 refine bN 3 [2,0,1] A A V ?_
 exact eQ (rs:=[.cell 6 125,.tmp 7]) (vs:=[.agg #[jI m.ins,m.sv,m.av,m.ov],jI y]) (post:=[rS9 148 3 m.sv m.ss sqC,bigE [bigE ps,rS9 145 2 m.av m.gs anC]]) A ⟨⟨b2,0,[jI m.ins,m.sv,m.av,m.ov],A,A,F,F,aM 2 A 0 A⟩,A,trivial⟩ A (eA [0,0] A) ⟨_,m,_,A,A,fun w G=>⟨(D w (bF G eG)).1,cI (bF G (fW eG)),(D w (bF G eG)).2⟩,⟨e,E,B⟩,M.same U hy⟩
 refine bZ A A A A A A (fun a9=>go ?_) (fun a9=>go ?_)
 refine cA (cs':=#[jI m.ins,m.sv,m.av,m.ov]) (i:=4) (off:=0) (us:=[jI m.ins,m.sv,m.av,m.ov]) A A A A A A A (aC A (aC e (aC X (aC B bH)))) A A A (go ?_)
 refine gC (fun w J=>(aB 2 A w J).one) (fun E=>?_)
 refine bN 6 [4,1,2,3] A A V ?_
 refine dN 2 A ?_
 refine bN 3 [2,0,1] A A V ?_
 exact eQ (rs:=[.cell 6 125,.tmp 7]) (vs:=[.agg #[jI m.ins,m.sv,m.av,m.ov],jI y]) (post:=[rS9 148 3 m.sv m.ss sqC,bigE [bigE ps,rS9 145 2 m.av m.gs anC]]) A ⟨⟨b2,0,[jI m.ins,m.sv,m.av,m.ov],A,A,F,F,aM 2 A 0 A⟩,A,trivial⟩ A (eA [0,0] A) ⟨_,m,_,A,A,fun w G=>⟨(D w (bF G eG)).1,cI (bF G (fW eG)),(D w (bF G eG)).2⟩,⟨e,E,B⟩,M.same U hy⟩
 refine bZ A A A A A A (fun aa=>go ?_) (fun aa=>go ?_)
 refine cA (cs':=#[jI m.ins,m.sv,m.av,m.ov]) (i:=4) (off:=0) (us:=[jI m.ins,m.sv,m.av,m.ov]) A A A A A A A (aC A (aC e (aC X (aC B bH)))) A A A (go ?_)
 refine gC (fun w J=>(aB 2 A w J).one) (fun E=>?_)
 refine bN 6 [4,1,2,3] A A V ?_
 refine dN 2 A ?_
 refine bN 3 [2,0,1] A A V ?_
 exact eQ (rs:=[.cell 6 125,.tmp 7]) (vs:=[.agg #[jI m.ins,m.sv,m.av,m.ov],jI x]) (post:=[rS9 148 3 m.sv m.ss sqC,bigE [bigE ps,rS9 145 2 m.av m.gs anC]]) A ⟨⟨b2,0,[jI m.ins,m.sv,m.av,m.ov],A,A,F,F,aM 2 A 0 A⟩,A,trivial⟩ A (eA [0,0] A) ⟨_,m,_,A,A,fun w G=>⟨(D w (bF G eG)).1,cI (bF G (fW eG)),(D w (bF G eG)).2⟩,⟨e,E,B⟩,M.same U hx⟩
 refine aN A (xV A A A) (go ?_)
 refine aN A (Hf A A A) (aN A (dG (cs:=#[jI (min x y),jI (if x<y then y else x)]) A A A) ?_)
 refine cU A (bY (z:=.agg #[jI 0,jI 0]) A A) fun a2=>?_
 refine cA (cs':=#[jI (min x y),jI (if x<y then y else x)]) (i:=0) (off:=0) (us:=[jI (min x y),jI (if x<y then y else x)]) A A A A A A A (aC A (aC A bH)) A A A (go ?_)
 refine lC (α:=Nat) [0,1,2,3,6,7,8,9,10,30,43,51,55] A (fun i=>[boxE a2 #[jI (min x y),jI (if x<y then y else x)] 145,nB9 b6 m,rS9 148 3 m.sv m.ss sqC,rS9 145 2 m.av m.gs anC,bigE ps,eB9 b2,nB9 b1 n]) (fun i=>[(11,jI (i:Int))]) (fun i=>i≤n.gs.length) (fun i=>n.gs.length-i) 0 (Nat.zero_le _) (bV A) (cZ A) fun i a3=>go ?_
 have hi:=a3
 refine aN A (eV A A A (aE hr.an)) ?_
 refine aW A A A A A A (fun ab=>go ?_) (fun ab=>go ?_)
 refine bL 7 [[],[0],[],[1,2],[3],[],[4,5]] [72,73,74,75,76,77,78] [.pointer (some ⟨b1,0+2,none⟩),n.av,jI (i:Int),elP n.av ((i:Int).toNat*2),.agg #[jI ((n.gs.getD i an0).a),jI ((n.gs.getD i an0).b)],.agg #[jI (min x y),jI (if x<y then y else x)],.bool (eqA ((n.gs.getD i an0).a) ((n.gs.getD i an0).b) (min x y) (if x<y then y else x))] F A ?_ ?_
 exact⟨aJ,aJ,aJ,fL A (cV 2 A A A A (aE hr.an)) A,fL A (cO (us:=[jI ((n.gs.getD i an0).a),jI ((n.gs.getD i an0).b)]) A A A A (aE hr.an) O A (dQ anC 2 (fun _=>A) n.gs an0 (show i<_ by omega) A)) A,aJ,fL A (Ju A A A) A,trivial⟩
 simp only[drop_succ_cons,drop_zero]
 refine go ?_
 refine fO A (fun ac=>go ?_) (fun ac=>go ?_)
 refine jF 7 [6,4,3,2,1,0,5] A A V ?_
 refine gZ (l:=[boxE a2 #[jI (min x y),jI (if x<y then y else x)] 145,nB9 b6 m,rS9 148 3 m.sv m.ss sqC,rS9 145 2 m.av m.gs anC,bigE ps,nB9 b1 n]) A 7 [0,1,2,3,4,5,6] (List.take 7 _) (List.drop 7 _) [[],[],[1],[],[2,3],[4],[0]] [some 79,some 80,some 81,some 82,some 83,some 84,none] (fun i_ aq v_ p_=>match i_ with|0=>v_=.agg #[jI m.ins,m.sv,m.av,m.ov]∧p_=[]|1=>v_=.agg #[jI n.ins,n.sv,n.av,n.ov]∧p_=[]|2=>v_=jI n.fst∧p_=[]|3=>v_=jI (i:Int)∧p_=[]|4=>v_=jI (n.fst+(i:Int))∧p_=[]|5=>v_=jI (2*(n.fst+(i:Int)))∧p_=[]|6=>p_=[nB9 b2 m]|_=>True) [[],[],[1],[],[2,3],[4],[0]] [none,none,none,none,none,none,some 8] [[eB9 b2]] [0,1,2,3,4,5,6] 8 (take_append_drop 7 _).symm F F F A A ?_ ?_
 refine⟨?_,?_,?_,?_,?_,?_,?_,trivial⟩
 intro vf pf Y K
 refine cD [] [] A (bC (aD [8] A) z9 ?_)
 exact aK (aP (cs:=[jI m.ins,m.sv,m.av,m.ov]) A A A A A (aM 1 A 0 A))
 intro vf pf Y K
 refine cD [] [] A (bC (aD [3] A) z9 ?_)
 exact aK (aP (cs:=[jI n.ins,n.sv,n.av,n.ov]) A A A A A (aM 5 A 0 A))
 intro vf pf Y K
 have e1:=K 1 V
 refine cD [1] [1] A (bC (aX 80 e1.1 (aA _)) z9 ?_)
 exact(aF A A (fun w J=>aI (dZ n w (hr.below J.bel) U)))
 intro vf pf Y K
 refine cD [] [] A (aZ (aD [11] A) ?_)
 exact aK (aU A)
 intro vf pf Y K
 have e2:=K 2 V
 have e3:=K 3 V
 refine cD [2,3] [2,3] A (aZ (aX 81 e2.1 (aX 82 e3.1 (aA _))) ?_)
 exact aK (eY A A A)
 intro vf pf Y K
 have e4:=K 4 V
 refine cD [4] [4] A (aZ (aX 83 e4.1 (aA _)) ?_)
 exact aK (eZ A A A AE)
 intro vf pf Y K
 have e0:=K 0 V
 refine Or.inl ⟨A,?_⟩
 show RunM _ _ _ (pf 8) (([0]:List Nat).flatMap pf++_) (envOf3 _ vf [0]++_) _ _
 have a4:pf 8=[eB9 b2]:=Y 0 (show 0<1 by omega)
 rw[a4]
 exact eJ (sk 6 A (aX 79 e0.1 (aA _))) (by simp only[e0.2,fS]<;>rfl) (jD (hO (us:=[jI m.ins,m.sv,m.av,m.ov]) (off:=0) 0 A A A A A A (aC A (aC e (aC X (aC B bH)))) A A) (fun v_ p_ h=>by show p_=[nB9 b2 m];exact h))
 intro vf pf Y K
 have e5:=K 5 V
 have e6:(pf 6)=[nB9 b2 m]:=K 6 V
 have ad:=e6
 have q0:=K 0 V
 have q1:=K 1 V
 have q2:=K 2 V
 have q3:=K 3 V
 have q4:=K 4 V
 have q5:=K 5 V
 refine cL (bE [78,69,55,51,43,30,11,10,9,8,7,6,3,2,1,0] _ (aX 84 e5.1 (aA _)) A) (by simp only[ad,q0.2,q1.2,q2.2,q3.2,q4.2,q5.2,fS]<;>rfl) ?_
 simp only[drop_succ_cons,drop_zero]
 refine go ?_
 refine gC (fun w J=>(aB 4 A w J).one) (fun E=>?_)
 refine bN 7 [3,0,4,5] A A V ?_
 refine dN 2 A ?_
 refine bN 3 [1,0,2] A A V ?_
 exact eQ (rs:=[.cell 6 125,.tmp 7]) (vs:=[.agg #[jI m.ins,m.sv,m.av,m.ov],jI (2*(n.fst+(i:Int)))]) (post:=[rS9 148 3 m.sv m.ss sqC,bigE [bigE ps,rS9 145 2 m.av m.gs anC]]) A ⟨⟨b2,0,[jI m.ins,m.sv,m.av,m.ov],A,A,F,F,aM 2 A 0 A⟩,A,trivial⟩ A (eA [0,0] A) ⟨_,m,_,A,A,fun w G=>⟨(D w (bF G eG)).1,cI (bF G (fW eG)),(D w (bF G eG)).2⟩,⟨e,E,B⟩,M.same U (by unfold LtOk;omega)⟩
 exact dR (i+1) O O (bV A) (cZ A)
 refine aN A (eV A A A (aE hr.an)) ?_
 refine bZ A A A A A A (fun a5=>absurd a5 O) (fun a5=>go ?_)
 refine cH A (aH (z:=.agg #[jI 0,jI 0]) (s:=2) (cs:=(mI [min x y,(if x<y then y else x)])) A Tryz.underlying123 A V A F A) fun ar=>?_
 refine bT (i:=4) (z:=.agg #[jI 0,jI 0]) (bytes:=16) A A A A Tryz.underlying123 F A A A A (aB 0 A) (bI _) AC (bK m.gs [(An.mk (min x y) (if x<y then y else x))]) (dP anC m.gs (An.mk (min x y) (if x<y then y else x)) _ A) (fun _=>A) fun Z=>go ?_
 refine eE (i:=4) A (fun a0=>?_)
 refine gB (i:=2) (cs':=#[jI m.ins,m.sv,Z,m.ov]) A A A A A A a0 A A A A (go ?_)
 refine aN A (eZ A A A AE) ?_
 refine cA (cs':=#[jI m.ins,m.sv,Z,m.ov]) (i:=6) (off:=0) (us:=[jI m.ins,m.sv,Z,m.ov]) A A A A A A A (aC A (aC e (aC a0 (aC B bH)))) A A A (go ?_)
 refine gC (fun w J=>(aB 4 A w J).one) (fun E=>?_)
 refine bN 8 [6,3,4,5] A A V ?_
 refine dN 2 A ?_
 refine bN 3 [2,0,1] A A V ?_
 exact eQ (rs:=[.cell 6 125,.tmp 7]) (vs:=[.agg #[jI m.ins,m.sv,Z,m.ov],jI (2*n.cnt)]) (post:=[rS9 148 3 m.sv m.ss sqC,bigE [bigE ps,rowE 145 2 Z ((m.gs++[(An.mk (min x y) (if x<y then y else x))]).length) ((m.gs++[(An.mk (min x y) (if x<y then y else x))]).flatMap anC)]]) A ⟨⟨b2,0,[jI m.ins,m.sv,Z,m.ov],A,A,F,F,aM 2 A 0 A⟩,A,trivial⟩ A (eA [0,0] A) ⟨_,{ m with av:=Z,gs:=m.gs++[(An.mk (min x y) (if x<y then y else x))] },_,A,A,fun w G=>⟨(D w (bF G eG)).1,cI (bF G (fW eG)),(D w (bF G eG)).2⟩,⟨e,E,B⟩,(by rw[show(2*n.cnt)=2*n.cnt by omega];exact M.put U hx hy O _)⟩
theorem lQ (B e:List Int) (c m:Int) (u v:Value) (w:World) (hu:RdsW w u 1 B.length (B.map (Value.int .i64))) (Z:RdsW w v 1 e.length (e.map (Value.int .i64))) (U:MapOk B c m) (ad:m≤100000) (ae:c≤100000) (M:∀x∈e,LtOk x c) (hl:e.length≤1000) :
   Calls Tryz.prog 141 #[u,v] w (Ret w (fun v' post=>post=[rI9 3 v' (mpS B e)])):=by
 refine aY (N:=32) (args:=[u,v]) Tryz.func141 A A (cF 1 A (dW ?_))
 refine cH A (bU (s:=1) A z8 A) fun g1=>go ?_
 refine fP (α:=Nat) (β:=Value) (γ:=List Int) [0,1,4] A (fun i J zs=>[rI9 3 J zs]) (fun i J zs=>[(5,J),(6,jI (i:Int))]) (fun i J zs=>i≤e.length∧zs=mpS B (e.take i)) (fun i J zs=>e.length-i) 0 _ [] ⟨O,A⟩ (bV A) (cZ A) fun i J zs a0=>go ?_
 obtain⟨hi,hz⟩:=a0
 have af:zs.length=i:=by rw[hz];unfold mpS;rw[length_map,length_take];omega
 refine aW A A A A A A (fun h3=>go ?_) (fun h3=>go ?_)
 have X:=M _ (dJ (d:=(0:Int)) (show i<e.length by omega))
 have a1:=(U.lit X).1
 have ac:=U.1
 unfold LtOk at X a1
 refine eI A 16 [0,1,2,3,4,5,6,7,8,9,10,11,12,13,14,15] (List.take 16 _) (List.drop 16 _) [[],[],[],[],[2,3],[4],[5],[1,6],[7],[],[],[9,10],[11],[12],[8,13],[14]] [14,15,16,17,18,19,20,21,22,23,24,25,26,27,28,29] (fun i_ ag D E=>match i_ with|0=>D=J∧E=[]|1=>D=u∧E=[]|2=>D=v∧E=[]|3=>D=jI (i:Int)∧E=[]|4=>D=elP v ((i:Int).toNat*1)∧E=[]|5=>D=jI (e.getD i 0)∧E=[]|6=>D=jI ((e.getD i 0) / 2)∧E=[]|7=>D=elP u (((e.getD i 0) / 2).toNat*1)∧E=[]|8=>D=jI (B.getD (((e.getD i 0) / 2).toNat) 0)∧E=[]|9=>D=v∧E=[]|10=>D=jI (i:Int)∧E=[]|11=>D=elP v ((i:Int).toNat*1)∧E=[]|12=>D=jI (e.getD i 0)∧E=[]|13=>D=jI ((e.getD i 0) % 2)∧E=[]|14=>D=jI (mpL B (e.getD i 0))∧E=[]|15=>IsRow 3 1 1 (mI [mpL B (e.getD i 0)]) D E|_=>True) (take_append_drop 16 _).symm F F A A ?_ ?_
 refine⟨?_,?_,?_,?_,?_,?_,?_,?_,?_,?_,?_,?_,?_,?_,?_,?_,trivial⟩
 intro vf G h
 exact fG A (aD [5] A) (aK (aU A))
 intro vf G h
 exact fG A (aD [0] A) (aK (aU A))
 intro vf G h
 exact fG A (aD [1] A) (aK (aU A))
 intro vf G h
 exact fG A (aD [6] A) (aK (aU A))
 intro vf G h
 have e2:=h 2 V
 have e3:=h 3 V
 exact eH A (aX 16 e2.1 (aX 17 e3.1 (aA _))) (aK (cV 1 A A A A (aE Z)))
 intro vf G h
 have e4:=h 4 V
 exact eH A (aX 18 e4.1 (aA _)) (aK (lD A A A (aE Z)))
 intro vf G h
 have e5:=h 5 V
 exact fG A (aX 19 e5.1 (aA _)) (aK (gD A A A AH))
 intro vf G h
 have e1:=h 1 V
 have e6:=h 6 V
 exact eH A (aX 15 e1.1 (aX 20 e6.1 (aA _))) (aK (cV 1 A A A A (aE hu)))
 intro vf G h
 have e7:=h 7 V
 exact eH A (aX 21 e7.1 (aA _)) (aK (lP A A A (aE hu)))
 intro vf G h
 exact fG A (aD [1] A) (aK (aU A))
 intro vf G h
 exact fG A (aD [6] A) (aK (aU A))
 intro vf G h
 have e9:=h 9 V
 have a2:=h 10 V
 exact eH A (aX 23 e9.1 (aX 24 a2.1 (aA _))) (aK (cV 1 A A A A (aE Z)))
 intro vf G h
 have a3:=h 11 V
 exact eH A (aX 25 a3.1 (aA _)) (aK (lD A A A (aE Z)))
 intro vf G h
 have a4:=h 12 V
 exact fG A (aX 26 a4.1 (aA _)) (aK (jU A V A A (r:=(e.getD i 0) % 2) (Bit.and_one _ O O)))
 intro vf G h
 have e8:=h 8 V
 have a5:=h 13 V
 exact fG A (aX 22 e8.1 (aX 27 a5.1 (aA _))) (aK (jU A V A A (r:=mpL B (e.getD i 0)) (Bt O O)))
 intro vf G h
 have a6:=h 14 V
 exact eH A (aX 28 a6.1 (aA _)) (aH (z:=jI 0) (s:=1) (cs:=(mI [mpL B (e.getD i 0)])) A z8 A V A F A)
 intro vf G h
 have e0:=h 0 V
 obtain⟨g4,K,Y⟩:=h 15 V
 have q0:=h 0 V
 have q1:=h 1 V
 have q2:=h 2 V
 have q3:=h 3 V
 have q4:=h 4 V
 have q5:=h 5 V
 have q6:=h 6 V
 have q7:=h 7 V
 have q8:=h 8 V
 have q9:=h 9 V
 have a7:=h 10 V
 have a8:=h 11 V
 have a9:=h 12 V
 have aa:=h 13 V
 have ab:=h 14 V
 refine cL (bE [11,6,5,4,1,0] _ (aX 14 e0.1 (aX 29 K (aA _))) A) (by simp only[Y,K,q0.2,q1.2,q2.2,q3.2,q4.2,q5.2,q6.2,q7.2,q8.2,q9.2,a7.2,a8.2,a9.2,aa.2,ab.2,fS]<;>rfl) ?_
 simp only[drop_succ_cons,drop_zero]
 refine bT (i:=1) (z:=jI 0) (bytes:=8) A A A A z8 F A A A A (aB 0 A) (bI _) AD (bK zs ([mpL B (e.getD i 0)])) (cB zs ([mpL B (e.getD i 0)])) (fun _=>A) fun v5=>go ?_
 exact aQ (i+1) v5 (zs++([mpL B (e.getD i 0)])) ⟨O,by rw[hz];unfold mpS;rw[hY 0 (show i<e.length by omega),map_append];rfl⟩ O (bV rfl) (eA [1] rfl)
 exact bM (post:=[rI9 3 J zs]) A A (cZ A) (by rw[hz,List.take_of_length_le O])
theorem If {N:Nat}{w0:World}{l l':List HP}{env:List (Nat×Value)}{Q:Post}{e:Exit}(h:l=l') (k:HQ N w0 l' env e Q):HQ N w0 l env e Q:=h▸k
def MkLe (bs:List Bl) (M:Int):Prop:=∀k:Nat,(bs.getD k bl0).b=true→(k:Int)≤M
theorem MkLe.set {B:List Bl}{M:Int}(h:MkLe B M) {j:Nat}{b:Bl}(E:(j:Int)≤M):MkLe (B.set j b) M:=fun k D=>by
  by_cases e:j=k
  · subst e;exact E
  · rw[getD_eq_getElem?_getD,List.getElem?_set_ne e,←getD_eq_getElem?_getD] at D;exact h k D
theorem MkLe.start (n:Nat) {j:Nat}{b:Bl}:MkLe ((replicate n bl0).set j b) j:=fun k hk=>by
  by_cases e:j=k
  · subst e;exact Int.le_refl _
  · rw [getD_eq_getElem?_getD, List.getElem?_set_ne e, List.getElem?_replicate] at hk
    split at hk<;>exact absurd hk (by decide)
theorem MkLe.startI (n:Nat) {e:Int}{b:Bl}(h:0≤e):MkLe ((replicate n bl0).set e.toNat b) e:=by
  have B:=MkLe.start n (j:=e.toNat) (b:=b)
  rwa [Int.toNat_of_nonneg h] at B
def mkStep (n:Nt) (bs:List Bl) (i:Nat):List Bl:=if (bs.getD (n.fst+(i:Int)).toNat bl0).b=true then (bs.set ((n.gs.getD i an0).a / 2).toNat ⟨true⟩).set ((n.gs.getD i an0).b / 2).toNat ⟨true⟩ else bs
def mkD (n:Nt) (bs:List Bl):Nat→List Bl
  | 0=>bs
  | d+1=>mkStep n (mkD n bs d) (n.gs.length-1-d)
theorem Cq (n:Nt) (e:List Bl) (i:Nat):(mkStep n e i).length=e.length:=by unfold mkStep;split<;>simp
theorem tH (n:Nt) (e:List Bl):∀d,(mkD n e d).length=e.length
  | 0=>rfl
  | d+1=>by unfold mkD;rw[Cq,tH n e d]
theorem Hv {n:Nt}(hn:NtOk n) {bs:List Bl}{M:Int}(h:MkLe bs M):∀d,d≤n.gs.length→MkLe (mkD n bs d) M
  | 0,_=>h
  | d+1,hd=>by
    have ih:=Hv hn h d (by omega)
    unfold mkD mkStep
    split
    · rename_i hb
      have h1:=ih _ hb
      have ha:=hn.an (n.gs.length-1-d) (by omega)
      unfold LtOk at ha
      have hf:0≤n.fst:=by have:=hn.i0;unfold Nt.fst;omega
      exact(ih.set (by omega)).set (by omega)
    · exact ih
theorem Ag {n:Nt}{e:List Bl}{kk:Nat}(h:0<kk) (B:kk≤n.gs.length):mkD n e (n.gs.length-(kk-1))=mkStep n (mkD n e (n.gs.length-kk)) (kk-1):=by
  rw[show n.gs.length-(kk-1)=(n.gs.length-kk)+1 by omega]
  show mkStep n _ (n.gs.length-1-(n.gs.length-kk))=_
  rw[show n.gs.length-1-(n.gs.length-kk)=kk-1 by omega]
theorem Cp {n:Nt}{e:List Bl}{i:Nat}{j a b:Nat}(B:(n.fst+(i:Int)).toNat=j) (D:(e.getD j bl0).b=true) (E:((n.gs.getD i an0).a / 2).toNat=a) (h:((n.gs.getD i an0).b / 2).toNat=b):(e.set a ⟨true⟩).set b ⟨true⟩=mkStep n e i:=by
  unfold mkStep;rw[B,if_pos D,E,h]
theorem Fn {n:Nt}{e:List Bl}{i:Nat}{j:Nat}(h:(n.fst+(i:Int)).toNat=j) (B:(e.getD j bl0).b=false):e=mkStep n e i:=by
  unfold mkStep;rw[h,if_neg (by rw[B];decide)]
def mkdL (bs:List Bl) (k:Nat):List Int:=((List.range k).filter fun i:Nat=>(bs.getD i bl0).b).map fun i:Nat=>(i:Int)
theorem Ht {e:List Bl}{k:Nat}(h:(e.getD k bl0).b=true):mkdL e k++[(k:Int)]=mkdL e (k+1):=by
  unfold mkdL;rw[List.range_succ,List.filter_append,map_append,List.filter_cons_of_pos (p:=fun i:Nat=>(e.getD i bl0).b) h];rfl
theorem Kf {e:List Bl}{k:Nat}(h:(e.getD k bl0).b=false):mkdL e k=mkdL e (k+1):=by
  unfold mkdL;rw[List.range_succ,List.filter_append,map_append,List.filter_cons_of_neg (p:=fun i:Nat=>(e.getD i bl0).b) (by simpa using h)];simp
theorem Af (e:List Bl) (k:Nat):(mkdL e k).length≤k:=by
  unfold mkdL;rw[length_map];have:=List.length_filter_le (fun i=>(e.getD i bl0).b) (List.range k);simpa using this
theorem Hu {e:List Bl}{k:Nat}{x:Int}(h:x∈mkdL e k):∃i:Nat,x=(i:Int)∧i<k∧(e.getD i bl0).b=true:=by
  unfold mkdL at h
  simp only[List.mem_map,List.mem_filter,mem_range] at h
  obtain⟨i,⟨B,D⟩,rfl⟩:=h
  exact⟨i,rfl,B,D⟩
def coneS (n:Nt) (node:Int):List Int:=mkdL (mkD n ((replicate n.cnt.toNat bl0).set node.toNat ⟨true⟩) n.gs.length) n.cnt.toNat
theorem wZ {n:Nt}(h:NtOk n) {e:Int}(B:0≤e):∀x∈coneS n e,0≤x∧x≤e:=fun x D=>by
  obtain⟨i,rfl,G,E⟩:=Hu D
  have:=Hv h (MkLe.startI n.cnt.toNat (b:=⟨true⟩) B) n.gs.length (Nat.le_refl _) i E
  omega
theorem xA (n:Nt) (e:Int) (h:0≤n.cnt):((coneS n e).length:Int)≤n.cnt:=by
  have:=Af (mkD n ((replicate n.cnt.toNat bl0).set e.toNat ⟨true⟩) n.gs.length) n.cnt.toNat
  unfold coneS;omega
structure SInv (s0:List Sq) (i:Nat) (c:Int) (zs:List Sq):Prop where
  sk:zs.map sqk=s0.map sqk
  ok:∀j,j<i→∀x∈(zs.getD j sq0).xs,LtOk x c
theorem SInv.start (e:List Sq) (c:Int):SInv e 0 c e:=⟨rfl,fun j h=>absurd h O⟩
theorem SInv.len {e:List Sq}{i:Nat}{c:Int}{zs:List Sq}(h:SInv e i c zs):zs.length=e.length:=xO h.sk
theorem SInv.step {B:List Sq}{i:Nat}{c:Int}{zs:List Sq}(h:SInv B i c zs) (G:i<B.length) {e:Sq}(D:sqk e=sqk (zs.getD i sq0)) (E:∀x∈e.xs,LtOk x c):SInv B (i+1) c (zs.set i e):=by
  have J:=h.len
  refine⟨by rw[Jm D O];exact h.sk,fun j K=>?_⟩
  by_cases c:i=j
  · subst c;rw[fQ O];exact E
  · rw[getD_eq_getElem?_getD,List.getElem?_set_ne c,←getD_eq_getElem?_getD];exact h.ok j O
theorem SInv.x4 {B:List Sq}{i:Nat}{c:Int}{zs:List Sq}(h:SInv B i c zs) (E:∀s∈B,s.xs.length≤4) {k:Nat}(D:k<B.length):(zs.getD k sq0).xs.length≤4:=by
  have e:=yI (d:=sq0) h.sk D
  simp only[sqk,Prod.mk.injEq] at e
  rw[e.2.2];exact E _ (dJ D)
theorem SInv.same {B:List Sq}{i:Nat}{c:Int}{zs:List Sq}(h:SInv B i c zs) {k:Nat}(D:k<B.length):(zs.getD k sq0).xs.length=(B.getD k sq0).xs.length:=by
  have e:=yI (d:=sq0) h.sk D
  simp only[sqk,Prod.mk.injEq] at e
  exact e.2.2
theorem sqv_x4 {zs e:List Sq}(h:zs.map sqv=e.map sqv) (D:∀s∈e,s.xs.length≤4):∀s∈zs,s.xs.length≤4:=fun s E=>by
  obtain⟨r,G,B⟩:=uN h E
  simp only[sqv,Prod.mk.injEq] at B
  rw[←B.2.2];exact D r G
theorem SInv.all {e:List Sq}{i:Nat}{c:Int}{zs:List Sq}(h:SInv e i c zs) (E:i=e.length):∀s∈zs,∀x∈s.xs,LtOk x c:=fun s B=>by
  obtain⟨j,D,rfl⟩:=List.mem_iff_getElem.1 B
  have:=h.ok j (by have:=h.len;omega)
  rwa [getD_eq_getElem?_getD,List.getElem?_eq_getElem D,Option.getD_some] at this
theorem qN (h e:List Int):(mpS h e).length=e.length:=by unfold mpS;rw[length_map]
theorem Fc {k:Nat}{c:Int}(h:0<c):∀x∈replicate k (0:Int),LtOk x c:=fun x e=>by rw[List.eq_of_mem_replicate e];unfold LtOk;omega
theorem tZ {n m:Nt}(h:Skel n m) (D:NtOk m) {zs:List Sq}{gs:List An}{os:List Int}{sv av ov:Value}(K:zs.map sqk=m.ss.map sqk) (X:AnsOk n.fst gs) (G:gs.length≤300) (Y:∀s∈zs,∀x∈s.xs,LtOk x (n.fst+gs.length)) (Z:∀x∈os,LtOk x (n.fst+gs.length)) (J:os.length≤16) :
    NtOk (Nt.mk m.ins sv av ov zs gs os)∧Skel n (Nt.mk m.ins sv av ov zs gs os):=by
  have E:Skel n (Nt.mk m.ins sv av ov zs gs os):=⟨h.ins,K.trans h.ss⟩
  have B:Skel m (Nt.mk m.ins sv av ov zs gs os):=⟨rfl,K⟩
  have M:=E.fst
  have U:(Nt.mk m.ins sv av ov zs gs os).cnt=n.fst+gs.length:=by show(Nt.mk m.ins sv av ov zs gs os).fst+(gs.length:Int)=_;rw[M]
  exact⟨⟨D.i0,D.i1,by rw[B.len];exact D.s1,G,J,B.sq D.sq,fun s E x e=>by rw[U];exact Y s E x e,fun k hk=>by rw[M];exact X k hk,fun x e=>by rw[U];exact Z x e⟩,E⟩
open Go.RowKit
def tInH (v:Value):Int:=match v with | .tuple #[.agg #[.int .i64 i,_,_,_],_]=>i|_=>0
def tSvH (v:Value):Value:=match v with | .tuple #[.agg #[_,x,_,_],_]=>x|_=>undef
def tAvH (v:Value):Value:=match v with | .tuple #[.agg #[_,_,x,_],_]=>x|_=>undef
def tOvH (v:Value):Value:=match v with | .tuple #[.agg #[_,_,_,x],_]=>x|_=>undef
def tXH (v:Value):Int:=match v with | .tuple #[_,.int .i64 i]=>i|_=>0
theorem sJ (n:Nt) (e:List Bl) (v:Value) (w:World) (B:RdsNt w n) (D:NtOk n) (hv:RdsW w v 1 e.length (e.flatMap blC)) (a2:(e.length:Int)=n.cnt) :
   Calls Tryz.prog 157 #[.agg #[.int .i64 n.ins,n.sv,n.av,n.ov],v] w (Ret w (fun u_ p_=>p_=[rS9 4 1 u_ (mkD n e n.gs.length) blC])):=by
 have a3:=D.i0
 have a4:=D.i1
 have a5:=D.s1
 have a6:=D.a1
 have a7:=D.o1
 have Z:n.cnt=1+n.ins+n.ss.length+n.gs.length:=rfl
 have a0:n.fst=1+n.ins+n.ss.length:=rfl
 refine aY (N:=44) (args:=[.agg #[jI n.ins,n.sv,n.av,n.ov],v]) Tryz.func157 A A (dW ?_)
 refine cU A (cE A A) ?_
 intro b1
 refine bG 1 A (dW ?_)
 refine cH A (bU (s:=1) A Tryz.underlying61 A) ?_
 intro g2
 refine aS 1 A (bT (i:=0) (z:=.bool false) (bytes:=1) (n':=e.length) (xs':=(e.flatMap blC)) A A A A Tryz.underlying61 F A A A A (aE hv) (vD blC e (fun r u K=>by simp[blC] at K;first|(subst K;rfl)|(rcases K with rfl|rfl<;>rfl)|(rcases K with rfl|rfl|rfl<;>rfl)|(rcases K with rfl|rfl|rfl|rfl<;>rfl))) AL (Nat.zero_add _) (nil_append _) (fun _=>A) ?_)
 intro v3
 refine bG 1 A (kE (aN A (fY 2 A A A) (aN A (bJ A A A (bA 1 A A)) (aN A (eV A A A (aE B.an)) (aN A (nK A A A) (eS 1 A ?_))))))
 refine bB (bS ?_)
 refine vA (α:=Nat) (β:=Value) (γ:=List Bl) (fun kk h zs=>[rS9 4 1 h zs blC,nB9 b1 n]) (fun kk h zs=>[(0,.agg #[jI n.ins,n.sv,n.av,n.ov]),(1,v),(2,pI b1),(4,.slice none 0 0),(5,h),(6,jI ((kk:Int)-1))]) (fun kk h zs=>kk≤n.gs.length∧zs=mkD n e (n.gs.length-kk)) (fun kk h zs=>kk) n.gs.length _ e ⟨Nat.le_refl _,by rw[Nat.sub_self];rfl⟩ (bV rfl) (cZ rfl) ?_
 intro kk h zs X
 obtain⟨M,U⟩:=X
 have a8:zs.length=e.length:=by rw[U,tH]
 refine aG (aG (cN 1 A ?_))
 refine eK A A A A A A (fun h5=>?_) (fun h5=>?_)
 refine dL (aR A (eC (jR (aG (cN 1 A (aN A (aP (cs:=[jI n.ins,n.sv,n.av,n.ov]) A A A A A (aM 1 A 0 A)) ?_))))))
 refine cM A (aF A A (fun w hm=>aI (dZ n w (B.below hm.bel) D))) (aS 1 A (aN A (eY A A A) (aN A (cV 1 A A A A (aB 0 A)) ?_)))
 refine aN A (aL (u:=.bool ((zs.getD ((n.fst+((kk:Int)-1)).toNat) bl0).b)) A A A (aB 0 A) (dF blC (fun r=>.bool r.b) (fun _=>A) zs bl0 (show(n.fst+((kk:Int)-1)).toNat<_ by omega))) (bD (fun Y=>?_) (fun Y=>?_))
 have E:=Y
 refine dL (aR A (dW ?_))
 have ha:=D.an ((kk:Int)-1).toNat O
 unfold LtOk at ha
 refine aS 1 A (aN A (fY 2 A A A) (aN A (bJ A A A (bA 1 A A)) (aS 1 A (aN A (cV 2 A A A A (aE B.an)) (aN A (bR (k0:=0) A A A (aE B.an) O) ?_)))))
 refine aN A (aL (u:=jI ((n.gs.getD ((((kk:Int)-1)).toNat) an0).a)) A A A (aE B.an) ((dC anC 2 (fun _=>A) n.gs an0 (show(((kk:Int)-1)).toNat<_ by omega) V).trans A)) (aN A (gD A A A AH) ?_)
 refine aN A (cV 1 A A A A (aB 0 A)) (dS (i:=0) (n':=(zs.set ((((n.gs.getD ((((kk:Int)-1)).toNat) an0).a) / 2).toNat) { zs.getD ((((n.gs.getD ((((kk:Int)-1)).toNat) an0).a) / 2).toNat) bl0 with b:=true }).length) A A A A A A A A AA List.length_set.symm (eF blC (fun r=>.bool r.b) (fun _=>A) _ ({ zs.getD ((((n.gs.getD ((((kk:Int)-1)).toNat) an0).a) / 2).toNat) bl0 with b:=true }) A) A ?_)
 refine dL (cN 1 A (aN A (fY 2 A A A) (aN A (bJ A A A (bA 1 A A)) (aS 1 A (aN A (cV 2 A A A A (aE B.an)) (aN A (bR (k0:=1) A A A (aE B.an) O) ?_))))))
 refine aN A (aL (u:=jI ((n.gs.getD ((((kk:Int)-1)).toNat) an0).b)) A A A (aE B.an) ((dC anC 2 (fun _=>A) n.gs an0 (show(((kk:Int)-1)).toNat<_ by omega) V).trans A)) (aN A (gD A A A AH) ?_)
 refine aN A (cV 1 A A A A (aB 0 A) O AA) (dS (i:=0) (n':=((zs.set ((((n.gs.getD ((((kk:Int)-1)).toNat) an0).a) / 2).toNat) { zs.getD ((((n.gs.getD ((((kk:Int)-1)).toNat) an0).a) / 2).toNat) bl0 with b:=true }).set ((((n.gs.getD ((((kk:Int)-1)).toNat) an0).b) / 2).toNat) { (zs.set ((((n.gs.getD ((((kk:Int)-1)).toNat) an0).a) / 2).toNat) { zs.getD ((((n.gs.getD ((((kk:Int)-1)).toNat) an0).a) / 2).toNat) bl0 with b:=true }).getD ((((n.gs.getD ((((kk:Int)-1)).toNat) an0).b) / 2).toNat) bl0 with b:=true }).length) A A A A A A A A AA List.length_set.symm (eF blC (fun r=>.bool r.b) (fun _=>A) _ ({ (zs.set ((((n.gs.getD ((((kk:Int)-1)).toNat) an0).a) / 2).toNat) { zs.getD ((((n.gs.getD ((((kk:Int)-1)).toNat) an0).a) / 2).toNat) bl0 with b:=true }).getD ((((n.gs.getD ((((kk:Int)-1)).toNat) an0).b) / 2).toNat) bl0 with b:=true }) A) A ?_)
 refine cP (eB (cN 1 A (aN A (nK A A A) (eS 1 A ?_))))
 have G:((kk:Int)-1).toNat=kk-1:=O
 have J:(zs.set ((((n.gs.getD ((((kk:Int)-1)).toNat) an0).a) / 2).toNat) { zs.getD ((((n.gs.getD ((((kk:Int)-1)).toNat) an0).a) / 2).toNat) bl0 with b:=true }).set ((((n.gs.getD ((((kk:Int)-1)).toNat) an0).b) / 2).toNat) { (zs.set ((((n.gs.getD ((((kk:Int)-1)).toNat) an0).a) / 2).toNat) { zs.getD ((((n.gs.getD ((((kk:Int)-1)).toNat) an0).a) / 2).toNat) bl0 with b:=true }).getD ((((n.gs.getD ((((kk:Int)-1)).toNat) an0).b) / 2).toNat) bl0 with b:=true }=mkD n e (n.gs.length-(kk-1)):=by rw[Ag O M];exact(U▸Cp (i:=kk-1) O E (by rw[G]) (by rw[G]))
 exact aQ (kk-1) h ((zs.set ((((n.gs.getD ((((kk:Int)-1)).toNat) an0).a) / 2).toNat) { zs.getD ((((n.gs.getD ((((kk:Int)-1)).toNat) an0).a) / 2).toNat) bl0 with b:=true }).set ((((n.gs.getD ((((kk:Int)-1)).toNat) an0).b) / 2).toNat) { (zs.set ((((n.gs.getD ((((kk:Int)-1)).toNat) an0).a) / 2).toNat) { zs.getD ((((n.gs.getD ((((kk:Int)-1)).toNat) an0).a) / 2).toNat) bl0 with b:=true }).getD ((((n.gs.getD ((((kk:Int)-1)).toNat) an0).b) / 2).toNat) bl0 with b:=true }) ⟨O,J⟩ O (bE [5,4,2,1,0] _ (sk 6 (congrArg (fun x=>some (Value.int .i64 x)) O) (aA _)) A) (cZ A)
 have E:=Y
 refine dL (jQ A (eB (cN 1 A (aN A (nK A A A) (eS 1 A ?_)))))
 have G:((kk:Int)-1).toNat=kk-1:=O
 have J:zs=mkD n e (n.gs.length-(kk-1)):=by rw[Ag O M];exact(U▸Fn (i:=kk-1) O E)
 exact aQ (kk-1) h zs ⟨O,J⟩ O (bE [5,4,2,1,0] _ (sk 6 (congrArg (fun x=>some (Value.int .i64 x)) O) (aA _)) A) (cZ A)
 refine dL (aV A ?_)
 refine bW (fM ?_)
 refine aO (bB (cF 2 A ?_))
 exact cW (bM (post:=[rS9 4 1 h zs blC]) A A (eA [0] A) (by rw[U,show n.gs.length-kk=n.gs.length by omega]))
theorem Bp (n:Nt) (w:World) (D:RdsNt w n) (e:NtOk n) :
   Calls Tryz.prog 156 #[.agg #[.int .i64 n.ins,n.sv,n.av,n.ov]] w (Ret w (fun Z p_=>∃B:List Bl,p_=[rS9 4 1 Z B blC]∧B.length=n.cnt.toNat)):=by
 have a0:=e.i0
 have a2:=e.i1
 have a3:=e.s1
 have a4:=e.a1
 have a5:=e.o1
 have U:n.cnt=1+n.ins+n.ss.length+n.gs.length:=rfl
 have X:n.fst=1+n.ins+n.ss.length:=rfl
 refine aY (N:=31) (args:=[.agg #[jI n.ins,n.sv,n.av,n.ov]]) Tryz.func156 A A (dW ?_)
 refine cU A (cE A A) ?_
 intro b1
 refine bG 1 A (kE (aN A (aP (cs:=[jI n.ins,n.sv,n.av,n.ov]) A A A A A (aM 0 A 0 A)) ?_))
 refine cM A (aF A A (fun w h=>aI (gG n w (D.below h.bel) e))) (bG 1 A (aV A (eC (dW (aN A (aP (cs:=[jI n.ins,n.sv,n.av,n.ov]) A A A A A (aM 0 A 0 A)) ?_)))))
 refine cM A (aF A A (fun w h=>aI (dK n w (D.below h.bel) e))) (cH A (fB (z:=.bool false) (s:=1) (bytes:=1) (n:=(replicate n.cnt.toNat bl0).length) (cs:=((replicate n.cnt.toNat bl0).flatMap blC)) A Tryz.underlying61 A V A A AB AB AF (fZ blC 1 (fun _=>A) bl0 _ A n.cnt.toNat)) ?_)
 intro g2
 refine bG 1 A (dW (aN A (aP (cs:=[jI n.ins,n.sv,n.av,n.ov]) A A A A A (aM 1 A 0 A)) ?_))
 refine fF A A A (aF A A (fun w h=>nC n w (D.below h.bel) e)) ?_
 intro v3 p4 R5
 subst R5
 refine bG 1 A (aG (cF 1 A (bS ?_)))
 refine iG (α:=Nat) (β:=List Bl) [0,1,2,3,4,8] rfl (fun q zs=>[rowE 3 1 v3 ((rtsL n n.ss.length).length) (mI (rtsL n n.ss.length)),rS9 4 1 (.slice (some ⟨g2,0,none⟩) ((replicate n.cnt.toNat bl0).length) ((replicate n.cnt.toNat bl0).length)) zs blC,nB9 b1 n]) (fun q zs=>[(5,jI (q:Int))]) (fun q zs=>q≤(rtsL n n.ss.length).length∧zs.length=n.cnt.toNat) (fun q zs=>(rtsL n n.ss.length).length-q) 0 _ ⟨Nat.zero_le _,by rw[length_replicate]⟩ (bV rfl) (cZ rfl) ?_
 intro q zs E
 obtain⟨hq,G⟩:=E
 refine aG (aG (cN 2 A ?_))
 have Y:=oK e n.ss.length (Nat.le_refl _)
 refine aN A (eV A A A (aB 0 A)) (aW A A A A A A (fun h7=>?_) (fun h7=>?_))
 refine dL (aR A (eC (jR (bP ?_))))
 have J:=Cg e (i:=q) O
 unfold LtOk at J
 refine aS 3 A (aN A (cV 1 A A A A (aB 0 A)) (aN A (aL (u:=jI ((rtsL n n.ss.length).getD q 0)) A A A (aB 0 A) (cJ (show _<(rtsL n n.ss.length).length by omega))) ?_))
 refine aN A (gD A A A AH) ?_
 refine aN A (cV 1 A A A A (aB 1 A)) (dS (i:=1) (n':=(zs.set ((((rtsL n n.ss.length).getD q 0) / 2).toNat) { zs.getD ((((rtsL n n.ss.length).getD q 0) / 2).toNat) bl0 with b:=true }).length) A A A A A A A A AA List.length_set.symm (eF blC (fun r=>.bool r.b) (fun _=>A) _ ({ zs.getD ((((rtsL n n.ss.length).getD q 0) / 2).toNat) bl0 with b:=true }) A) A ?_)
 refine cP (eB (cN 1 A (aN A (eY A A A) (eS 1 A ?_))))
 exact bO (q+1) (zs.set ((((rtsL n n.ss.length).getD q 0) / 2).toNat) { zs.getD ((((rtsL n n.ss.length).getD q 0) / 2).toNat) bl0 with b:=true }) ⟨O,by rw[length_set];exact G⟩ O (bV rfl) (cZ rfl)
 refine dL (aV A ?_)
 refine bW (fM ?_)
 refine aO (bB (dW (aN A (aP (cs:=[jI n.ins,n.sv,n.av,n.ov]) A A A A A (aM 2 A 0 A)) (aS 1 A ?_))))
 refine fF A A A (aF A A (fun w h=>sJ n zs _ w (D.below h.bel) e ((aB 1 A) w h) (by first|omega|(simp only[length_set,length_replicate];omega)))) ?_
 intro v8 p9 K
 subst K
 have M:(mkD n zs n.gs.length).length=n.cnt.toNat:=by rw[tH];first|omega|(simp only[length_set,length_replicate];done)
 refine bG 1 A ?_
 exact cW (bM (post:=[rowE 4 1 v8 ((mkD n zs n.gs.length).length) ((mkD n zs n.gs.length).flatMap blC)]) A A (eA [0] A) ⟨_,A,M⟩)
theorem Bq (n:Nt) (e:Int) (w:World) (J:RdsNt w n) (h:NtOk n) (a0:0≤e∧e<n.cnt) :
   Calls Tryz.prog 147 #[.agg #[.int .i64 n.ins,n.sv,n.av,n.ov],.int .i64 e] w (Ret w (fun u_ p_=>p_=[rI9 3 u_ (coneS n e)])):=by
 have a2:=h.i0
 have a3:=h.i1
 have a4:=h.s1
 have a5:=h.a1
 have a6:=h.o1
 have Y:n.cnt=1+n.ins+n.ss.length+n.gs.length:=rfl
 have Z:n.fst=1+n.ins+n.ss.length:=rfl
 refine aY (N:=47) (args:=[.agg #[jI n.ins,n.sv,n.av,n.ov],jI e]) Tryz.func147 A A (dW ?_)
 refine cU A (cE A A) fun b1=>go ?_
 refine cH A (bU (s:=1) A z8 A) fun g2=>go ?_
 refine cM A (aF A A (fun w B=>aI (gG n w (J.below B.bel) h))) (go ?_)
 refine aW A A A A A A (fun h3=>absurd h3 O) (fun h3=>go ?_)
 refine cM A (aF A A (fun w B=>aI (dK n w (J.below B.bel) h))) (eK A A A A A A (fun h4=>absurd h4 O) (fun h4=>go ?_))
 refine cM A (aF A A (fun w B=>aI (dK n w (J.below B.bel) h))) (cH A (fB (z:=.bool false) (s:=1) (bytes:=1) (n:=(replicate n.cnt.toNat bl0).length) (cs:=((replicate n.cnt.toNat bl0).flatMap blC)) A Tryz.underlying61 A V A A AB AB AF (fZ blC 1 (fun _=>A) bl0 _ A n.cnt.toNat)) fun g5=>go ?_)
 have a7:(replicate n.cnt.toNat bl0).length=n.cnt.toNat:=length_replicate
 refine aN A (cV 1 A A A A (aB 0 A)) ?_
 refine dS (i:=0) (n':=((replicate n.cnt.toNat bl0).set (e.toNat) { (replicate n.cnt.toNat bl0).getD (e.toNat) bl0 with b:=true }).length) A A A A A A A A AA List.length_set.symm (eF blC (fun r=>.bool r.b) (fun _=>A) _ ({ (replicate n.cnt.toNat bl0).getD (e.toNat) bl0 with b:=true }) A) A (go ?_)
 refine fF A A A (aF A A (fun w B=>sJ n ((replicate n.cnt.toNat bl0).set (e.toNat) { (replicate n.cnt.toNat bl0).getD (e.toNat) bl0 with b:=true }) _ w (J.below B.bel) h ((aB 0 A) w B) (by first|omega|(simp only[length_set,length_replicate];omega)))) fun v6 p7 R8=>?_
 subst R8
 have a8:(mkD n ((replicate n.cnt.toNat bl0).set (e.toNat) { (replicate n.cnt.toNat bl0).getD (e.toNat) bl0 with b:=true }) n.gs.length).length=n.cnt.toNat:=by rw[tH];first|omega|(simp only[length_set,length_replicate];done)
 refine go ?_
 refine fP (α:=Nat) (β:=Value) (γ:=List Int) [0,1,2,4,6,21] A (fun k D xs=>[rowE 4 1 v6 ((mkD n ((replicate n.cnt.toNat bl0).set (e.toNat) { (replicate n.cnt.toNat bl0).getD (e.toNat) bl0 with b:=true }) n.gs.length).length) ((mkD n ((replicate n.cnt.toNat bl0).set (e.toNat) { (replicate n.cnt.toNat bl0).getD (e.toNat) bl0 with b:=true }) n.gs.length).flatMap blC),rowE 4 1 (.slice (some ⟨g5,0,none⟩) ((replicate n.cnt.toNat bl0).length) ((replicate n.cnt.toNat bl0).length)) (((replicate n.cnt.toNat bl0).set (e.toNat) { (replicate n.cnt.toNat bl0).getD (e.toNat) bl0 with b:=true }).length) (((replicate n.cnt.toNat bl0).set (e.toNat) { (replicate n.cnt.toNat bl0).getD (e.toNat) bl0 with b:=true }).flatMap blC),rI9 3 D xs,nB9 b1 n]) (fun k D xs=>[(5,D),(7,jI (k:Int))]) (fun k D xs=>k≤n.cnt.toNat∧xs=mkdL (mkD n ((replicate n.cnt.toNat bl0).set (e.toNat) { (replicate n.cnt.toNat bl0).getD (e.toNat) bl0 with b:=true }) n.gs.length) k) (fun k D xs=>n.cnt.toNat-k) 0 _ [] ⟨Nat.zero_le _,A⟩ (bV A) (cZ A) fun k D xs M=>go ?_
 obtain⟨hk,K⟩:=M
 have a9:xs.length≤k:=by rw[K];exact Af _ _
 refine aW A A A A A A (fun U=>go ?_) (fun U=>go ?_)
 refine aN A (cV 1 A A A A (aB 0 A) O AA) ?_
 refine aN A (aL (u:=.bool (((mkD n ((replicate n.cnt.toNat bl0).set (e.toNat) { (replicate n.cnt.toNat bl0).getD (e.toNat) bl0 with b:=true }) n.gs.length).getD k bl0).b)) A A A (aB 0 A) (dF blC (fun r=>.bool r.b) (fun _=>A) (mkD n ((replicate n.cnt.toNat bl0).set (e.toNat) { (replicate n.cnt.toNat bl0).getD (e.toNat) bl0 with b:=true }) n.gs.length) bl0 (show k<_ by first|omega|(simp only[length_set];omega)))) (bD (fun E=>go ?_) (fun E=>go ?_))
 have G:=E
 refine cH A (aH (z:=jI 0) (s:=1) (cs:=(mI [(k:Int)])) A z8 A V A F A) fun aa=>?_
 refine bT (i:=3) (z:=jI 0) (bytes:=8) A A A A z8 F A A A A (aB 0 A) (bI _) AD (bK xs ([(k:Int)])) (cB xs ([(k:Int)])) (fun _=>A) fun X=>go ?_
 exact aQ (k+1) X (xs++([(k:Int)])) ⟨O,by rw[K];exact Ht G⟩ O (bV rfl) (eA [1,0,0,0] rfl)
 have G:=E
 exact aQ (k+1) D xs ⟨O,by rw[K];exact Kf G⟩ O (bV rfl) (cZ rfl)
 exact bM (post:=[rI9 3 D xs]) A A (eA [2] A) (by rw[K,show k=n.cnt.toNat by omega];rfl)
theorem Bh (h:Int) (e:Value) (B:e.oneCell'=true):Tryz.prog.built 125 [(0,.int .i64 h),(1,e)]=some #[.int .i64 h,e,.slice none 0 0,.slice none 0 0]:=by
  (cases e<;>first|(exact absurd B Bool.false_ne_true)|kernel_rfl)
theorem qV (n:Nt) (w:World) (hr:RdsNt w n) (hn:NtOk n) :
   Calls Tryz.prog 118 #[.agg #[.int .i64 n.ins,n.sv,n.av,n.ov]] w (Ret w (fun u_ D=>∃(ps:List HP) (m:Nt) (U:Value),u_=.tuple #[m.agg,U]∧D=[rS9 148 3 m.sv m.ss sqC,rI9 3 U (evs2 n.fst.toNat),bigE ps]∧(∀w,(bigE ps).holds w→RdsSqs w m.ss)∧m.sv.oneCell'=true∧(m.av=.slice none 0 0∧m.ov=.slice none 0 0∧m.gs=[]∧m.os=[])∧Skel n m∧NtOk m)):=by
 have aq:=hn.i0
 have ar:=hn.i1
 have au:=hn.s1
 have aw:=hn.a1
 have a5:=hn.o1
 have ao:n.cnt=1+n.ins+n.ss.length+n.gs.length:=rfl
 have ap:n.fst=1+n.ins+n.ss.length:=rfl
 refine aY (N:=48) (args:=[.agg #[jI n.ins,n.sv,n.av,n.ov]]) Tryz.func118 A A (dW ?_)
 refine cU A (cE A A) fun b1=>?_
 refine cU A (bY (z:=.agg #[jI 0,.slice none 0 0,.slice none 0 0,.slice none 0 0]) A A) fun b2=>go ?_
 refine eI A 7 [0,1,2,3,4,5,6] (List.take 7 _) (List.drop 7 _) [[],[0],[],[2],[3],[1,4],[]] [8,9,10,11,12,13,4] (fun i_ a6 J D=>match i_ with|0=>J=.pointer (some ⟨b1,0+0,none⟩)∧D=[]|1=>J=jI n.ins∧D=[]|2=>J=.pointer (some ⟨b1,0+1,none⟩)∧D=[]|3=>J=n.sv∧D=[]|4=>(fun u_ D=>∃(ps:List HP) (zs:List Sq),D=[rS9 148 3 u_ zs sqC,bigE ps]∧(∀w,(bigE ps).holds w→RdsSqs w zs)∧zs.map sqv=n.ss.map sqv) J D|5=>J=.agg #[jI n.ins,(gV9 a6 1),.slice none 0 0,.slice none 0 0]∧D=[]|6=>IsBox #[jI 0,.slice none 0 0,.slice none 0 0,.slice none 0 0] 125 J D|_=>True) (take_append_drop 7 _).symm F F A A ?_ ?_
 refine⟨?_,?_,?_,?_,?_,?_,?_,trivial⟩
 intro vf E e
 exact fG A (aD [1] A) (aK (fY 0 A A A))
 intro vf E e
 have e0:=e 0 V
 exact eH A (aX 8 e0.1 (aA _)) (aK (bJ A A A (bA 1 A A)))
 intro vf E e
 exact fG A (aD [1] A) (aK (fY 1 A A A))
 intro vf E e
 have e2:=e 2 V
 exact eH A (aX 10 e2.1 (aA _)) (aK (bJ A A A (bA 1 A A)))
 intro vf E e
 have e3:=e 3 V
 exact eH A (aX 11 e3.1 (aA _)) (aF A A (fun w hm=>nI n.ss _ w (hr.sq.below hm.bel) (fun s hs=>(hr.xs s hs).below hm.bel) (by have:=hn.s1;omega) (fun s hs=>(hn.sq s hs).len)))
 intro vf E e
 have e1:=e 1 V
 obtain⟨G,K⟩:=dU (vf 4)
 obtain⟨p4,X⟩:=dU (E 4)
 have R5:=e 4 V
 rw[K,X] at R5
 obtain⟨ps,z0,rfl,a7,Y⟩:=R5
 have a8:=xN Y
 refine Or.inl ⟨A,?_⟩
 exact bQ (aX 9 e1.1 (aX 12 K (aA _))) (by simp only[X,K,e1.2,fS]<;>rfl) (dM (aK (kG (cs:=#[jI n.ins,G,.slice none 0 0,.slice none 0 0]) A A (fun w hm=>Bh n.ins G ((aB 0 A w hm).one)))) (fun _ _ h=>⟨h.1.trans (by show _=(.agg #[jI n.ins,(vf 4),.slice none 0 0,.slice none 0 0]:Value);first|(rw[K];done)|(rw[K];rfl)),h.2⟩))
 intro vf E e
 exact eH A (aA _) (bY (z:=.agg #[jI 0,.slice none 0 0,.slice none 0 0,.slice none 0 0]) A A)
 intro vf E e
 obtain⟨G,K⟩:=dU (vf 4)
 obtain⟨p4,X⟩:=dU (E 4)
 have R5:=e 4 V
 rw[K,X] at R5
 obtain⟨ps,z0,rfl,a7,Y⟩:=R5
 have a8:=xN Y
 have e5:(vf 5)=.agg #[jI n.ins,(vf 4),.slice none 0 0,.slice none 0 0]∧(E 5)=[]:=e 5 V
 rw[K] at e5
 obtain⟨b6,a9,af⟩:=e 6 V
 have q0:=e 0 V
 have q1:=e 1 V
 have q2:=e 2 V
 have q3:=e 3 V
 have q5:=e 5 V
 refine cL (bE [3,2,1,0] _ (aX 4 a9 (aX 13 e5.1 (aA _))) A) (by simp only[X,K,af,a9,q0.2,q1.2,q2.2,q3.2,q5.2,fS]<;>rfl) ?_
 simp only[drop_succ_cons,drop_zero]
 refine eE (i:=0) A (fun aa=>?_)
 refine cA (cs':=#[jI n.ins,G,.slice none 0 0,.slice none 0 0]) (i:=2) (off:=0) (us:=[jI n.ins,G,.slice none 0 0,.slice none 0 0]) A A A A A A A (aC A (aC aa (aC A (aC A bH)))) A A A (go ?_)
 refine cH A (bU (s:=1) A z8 A) fun g8=>go ?_
 refine iG (α:=Nat) (β:=Value) [0,1,2,3,4] A (fun k U=>[rowE 3 1 U ((evs2 k).length) (mI (evs2 k)),rS9 148 3 G z0 sqC,bigE ps,boxE b6 #[jI n.ins,G,.slice none 0 0,.slice none 0 0] 125,eB9 b2,nB9 b1 n]) (fun k U=>[(5,U),(6,jI (k:Int))]) (fun k U=>(k:Int)≤n.fst) (fun k U=>n.fst.toNat-k) 0 _ O (bV A) (cZ A) fun k U ab=>go ?_
 have hk:=ab
 have ax:=vG k
 refine cM A (aF A A (fun w hm=>aI (dZ n w (hr.below hm.bel) hn))) (aW A A A A A A (fun ag=>go ?_) (fun ag=>go ?_))
 refine aN A (eZ A A A AE) ?_
 refine cH A (aH (z:=jI 0) (s:=1) (cs:=(mI [2*(k:Int)])) A z8 A V A F A) fun ah=>?_
 refine bT (i:=1) (z:=jI 0) (bytes:=8) A A A A z8 F A A A A (aB 0 A) (bI _) AD (bK (evs2 k) ([2*(k:Int)])) (cB (evs2 k) ([2*(k:Int)])) (fun _=>A) fun ac=>go ?_
 exact If (l':=[rowE 3 1 (.slice (some ⟨ah,0,none⟩) 1 1) 1 (mI [2*(k:Int)]),rowE 3 1 ac ((evs2 (k+1)).length) (mI (evs2 (k+1))),rS9 148 3 G z0 sqC,bigE ps,boxE b6 #[jI n.ins,G,.slice none 0 0,.slice none 0 0] 125,eB9 b2,nB9 b1 n]) (by rw[Gd]) (bO (k+1) ac O O (bV A) (eA [1,0,0,0,0,0] A))
 refine fP (α:=Nat) (β:=List Sq) (γ:=List HP) [0,1,2,3,4,5,6,18] A (fun B zs M=>[rowE 3 1 U ((evs2 k).length) (mI (evs2 k)),rS9 148 3 G zs sqC,bigE M,boxE b6 #[jI n.ins,G,.slice none 0 0,.slice none 0 0] 125,eB9 b2,nB9 b1 n]) (fun B zs M=>[(7,jI (B:Int))]) (fun B zs M=>B≤z0.length∧SInv z0 B n.fst zs∧∀w,(bigE M).holds w→RdsSqs w zs) (fun B zs M=>z0.length-B) 0 z0 _ ⟨Nat.zero_le _,SInv.start _ _,a7⟩ (bV A) (cZ A) fun B zs M ad=>go ?_
 obtain⟨ab,Z,a0⟩:=ad
 have ay:=Z.len
 refine aW A A A A A A (fun ai=>go ?_) (fun ai=>go ?_)
 have az:=Z.x4 (sqv_x4 Y (fun s hs=>(hn.sq s hs).len)) (k:=B) O
 refine eI A 13 [0,1,2,3,4,5,6,7,8,9,10,11,12] (List.take 13 _) (List.drop 13 _) [[],[0],[],[],[3],[],[4,5],[6],[7],[8],[9],[1,2],[11]] [33,34,35,36,37,38,39,40,41,42,43,44,45] (fun i_ a6 J D=>match i_ with|0=>J=.pointer (some ⟨b6,0+1,none⟩)∧D=[]|1=>J=G∧D=[]|2=>J=jI (B:Int)∧D=[]|3=>J=.pointer (some ⟨b6,0+1,none⟩)∧D=[]|4=>J=G∧D=[]|5=>J=jI (B:Int)∧D=[]|6=>J=elP G ((B:Int).toNat*3)∧D=[]|7=>J=elP G ((B:Int).toNat*3+2)∧D=[]|8=>J=(zs.getD B sq0).iv∧D=[]|9=>J=jI (((zs.getD B sq0).xs).length:Int)∧D=[]|10=>IsRow 3 1 ((replicate (((zs.getD B sq0).xs).length) (0:Int)).length) (mI (replicate (((zs.getD B sq0).xs).length) (0:Int))) J D|11=>J=elP G ((B:Int).toNat*3)∧D=[]|12=>J=elP G ((B:Int).toNat*3+2)∧D=[]|_=>True) (take_append_drop 13 _).symm F F A A ?_ ?_
 refine⟨?_,?_,?_,?_,?_,?_,?_,?_,?_,?_,?_,?_,?_,trivial⟩
 intro vf E e
 exact fG A (aD [4] A) (aK (fY 1 A A A))
 intro vf E e
 have e0:=e 0 V
 exact eH A (aX 33 e0.1 (aA _)) (aK (bJ A A A (bA 3 A A)))
 intro vf E e
 exact fG A (aD [7] A) (aK (aU A))
 intro vf E e
 exact fG A (aD [4] A) (aK (fY 1 A A A))
 intro vf E e
 have e3:=e 3 V
 exact eH A (aX 36 e3.1 (aA _)) (aK (bJ A A A (bA 3 A A)))
 intro vf E e
 exact fG A (aD [7] A) (aK (aU A))
 intro vf E e
 have e4:=e 4 V
 have e5:=e 5 V
 exact eH A (aX 37 e4.1 (aX 38 e5.1 (aA _))) (aK (cV 3 A A A A (aB 1 A)))
 intro vf E e
 have e6:=e 6 V
 exact eH A (aX 39 e6.1 (aA _)) (aK (bR (k0:=2) A A A (aB 1 A) O))
 intro vf E e
 have e7:=e 7 V
 exact eH A (aX 40 e7.1 (aA _)) (aK (aL (u:=(zs.getD B sq0).iv) A A A (aB 1 A) ((dC sqC 3 (fun _=>A) zs sq0 (show B<_ by omega) V).trans A)))
 intro vf E e
 have e8:=e 8 V
 exact eH A (aX 41 e8.1 (aA _)) (aK (eV A A A (fun w hm=>((a0 w (hm.holds _ (cT (i:=2) A)))).at (k:=B) O)))
 intro vf E e
 have e9:=e 9 V
 exact eH A (aX 42 e9.1 (aA _)) (fB (z:=jI 0) (s:=1) (bytes:=8) (n:=(replicate (((zs.getD B sq0).xs).length) (0:Int)).length) (cs:=(mI (replicate (((zs.getD B sq0).xs).length) (0:Int)))) A z8 A V A A AB AB AF (gW _))
 intro vf E e
 have e1:=e 1 V
 have e2:=e 2 V
 exact eH A (aX 34 e1.1 (aX 35 e2.1 (aA _))) (aK (cV 3 A A A A (aB 1 A)))
 intro vf E e
 have aj:=e 11 V
 exact eH A (aX 44 aj.1 (aA _)) (aK (bR (k0:=2) A A A (aB 1 A) O))
 intro vf E e
 obtain⟨a2,a3,ae⟩:=e 10 V
 have ak:=e 12 V
 have q0:=e 0 V
 have q1:=e 1 V
 have q2:=e 2 V
 have q3:=e 3 V
 have q4:=e 4 V
 have q5:=e 5 V
 have q6:=e 6 V
 have q7:=e 7 V
 have q8:=e 8 V
 have q9:=e 9 V
 have al:=e 11 V
 have am:=e 12 V
 refine cL (bE [30,18,7,6,5,4,3,2,1,0] _ (aX 43 a3 (aX 45 ak.1 (aA _))) A) (by simp only[ae,a3,q0.2,q1.2,q2.2,q3.2,q4.2,q5.2,q6.2,q7.2,q8.2,q9.2,al.2,am.2,fS]<;>rfl) ?_
 simp only[drop_succ_cons,drop_zero]
 refine dS (i:=2) (n':=(zs.set B (Sq.mk (zs.getD B sq0).kd (zs.getD B sq0).it (.slice (some ⟨a2,0,none⟩) ((replicate (((zs.getD B sq0).xs).length) (0:Int)).length) ((replicate (((zs.getD B sq0).xs).length) (0:Int)).length)) (replicate (((zs.getD B sq0).xs).length) (0:Int)))).length) (xs':=((zs.set B (Sq.mk (zs.getD B sq0).kd (zs.getD B sq0).it (.slice (some ⟨a2,0,none⟩) ((replicate (((zs.getD B sq0).xs).length) (0:Int)).length) ((replicate (((zs.getD B sq0).xs).length) (0:Int)).length)) (replicate (((zs.getD B sq0).xs).length) (0:Int)))).flatMap sqC)) A A A A A A A A AA List.length_set.symm (rC sqC 3 (fun _=>A) _ sq0 _ AA V A) A (go ?_)
 refine bN 7 [6,5,4,2,1,0,3] A A V ?_
 refine dN 2 A ?_
 refine bN 6 [5,4,3,0,2,1] A A V ?_
 exact aQ (B+1) (zs.set B (Sq.mk (zs.getD B sq0).kd (zs.getD B sq0).it (.slice (some ⟨a2,0,none⟩) ((replicate (((zs.getD B sq0).xs).length) (0:Int)).length) ((replicate (((zs.getD B sq0).xs).length) (0:Int)).length)) (replicate (((zs.getD B sq0).xs).length) (0:Int)))) [bigE M,rowE 3 1 (.slice (some ⟨a2,0,none⟩) ((replicate (((zs.getD B sq0).xs).length) (0:Int)).length) ((replicate (((zs.getD B sq0).xs).length) (0:Int)).length)) ((replicate (((zs.getD B sq0).xs).length) (0:Int)).length) (mI (replicate (((zs.getD B sq0).xs).length) (0:Int)))] ⟨O,Z.step O (by show(_,_,(replicate _ (0:Int)).length)=_;rw[length_replicate];rfl) (Fc O),fun w hw=>(a0 w (bF hw eG)).set (cI (bF hw (fW eG)))⟩ O (bV A) (cZ A)
 refine cA (cs':=#[jI n.ins,G,.slice none 0 0,.slice none 0 0]) (i:=4) (off:=0) (us:=[jI n.ins,G,.slice none 0 0,.slice none 0 0]) A A A A A A A (aC A (aC aa (aC A (aC A bH)))) A A A (go ?_)
 have an:k=n.fst.toNat:=O
 subst an
 refine gC (fun w hm=>(aB 1 A w hm).one) (fun a5=>?_)
 have a4:=tZ (n:=n) (m:=n) (sv:=G) (av:=.slice none 0 0) (ov:=.slice none 0 0) (zs:=zs) (gs:=[]) (os:=[]) ⟨rfl,rfl⟩ hn (Z.sk.trans (pA Y)) (fun k hk=>absurd hk (Nat.not_lt_zero _)) AI (by have h9:=Z.all O;simpa using h9) AI AI
 refine bN 6 [5,4,3,2,0,1] A A V ?_
 exact eQ (rs:=[.cell 2 125,.tmp 3]) (vs:=[.agg #[jI n.ins,G,.slice none 0 0,.slice none 0 0],U]) (post:=[rS9 148 3 G zs sqC,rowE 3 1 U ((evs2 n.fst.toNat).length) (mI (evs2 n.fst.toNat)),bigE M]) A ⟨⟨b2,0,[jI n.ins,G,.slice none 0 0,.slice none 0 0],A,A,F,F,aM 4 A 0 A⟩,A,trivial⟩ A (eA [0,0,0] A) ⟨_,(Nt.mk n.ins G (.slice none 0 0) (.slice none 0 0) zs [] []),_,A,A,a0,a5,⟨A,A,A,A⟩,a4.2,a4.1⟩
open Go.RowKit
theorem MapOk.two {e:List Int}{c m:Int}(h:MapOk e c m) {a b:Int}(B:LtOk a c) (D:LtOk b c):LtOk ((mpS e [a,b]).getD 0 0) m∧LtOk ((mpS e [a,b]).getD 1 0) m:=⟨(h.lit B).2,(h.lit D).2⟩
theorem Gt {c a b:Int}(h:LtOk a c) (B:LtOk b c):∀x∈[a,b],LtOk x c:=fun x e=>by
  rcases List.mem_cons.1 e with rfl|e
  · exact h
  · rw[mem_singleton] at e;subst e;exact B
theorem Gy {n m:Nt}(h:Skel n m) {k:Nat}(B:k<m.ss.length):(m.ss.getD k sq0).xs.length=(n.ss.getD k sq0).xs.length:=by
  have e:=yI (d:=sq0) h.ss (k:=k) (by rw[←h.len];exact B)
  simp only[sqk,Prod.mk.injEq] at e
  exact e.2.2
theorem Gl (n:Nt) (w:World) (K:RdsNt w n) (Y:NtOk n) :
   Calls Tryz.prog 142 #[.agg #[.int .i64 n.ins,n.sv,n.av,n.ov]] w (Ret w (fun u_ B=>∃(ps:List HP) (m:Nt),u_=m.agg∧B=[bigE ps]∧(∀w,(bigE ps).holds w→RdsNt w m)∧(m.sv.oneCell'=true∧m.av.oneCell'=true∧m.ov.oneCell'=true)∧NtOk m∧Skel n m∧m.gs.length≤n.gs.length)):=by
 have c0:=Y.i0
 have c1:=Y.i1
 have c2:=Y.s1
 have c3:=Y.a1
 have al:=Y.o1
 have bq:n.cnt=1+n.ins+n.ss.length+n.gs.length:=rfl
 have br:n.fst=1+n.ins+n.ss.length:=rfl
 refine aY (N:=101) (args:=[.agg #[jI n.ins,n.sv,n.av,n.ov]]) Tryz.func142 A A (dW ?_)
 refine cU A (cE A A) fun b1=>?_
 refine cU A (bY (z:=.agg #[jI 0,.slice none 0 0,.slice none 0 0,.slice none 0 0]) A A) fun b2=>go ?_
 refine cM A (aF A A (fun w J=>aI (gG n w (K.below J.bel) Y))) (go ?_)
 refine fF A A A (aF A A (fun w J=>Bp n w (K.below J.bel) Y)) fun v3 p4 R5=>?_
 obtain⟨bs,rfl,c4⟩:=R5
 refine go ?_
 refine fF A A A (aF A A (fun w J=>qV n w (K.below J.bel) Y)) fun v6 p7 R8=>?_
 obtain⟨ps,m,tv,rfl,rfl,ba,am,⟨bb,bc,bt,bu⟩,a7,ao⟩:=R8
 simp only[Nt.agg,bb,bc]
 have bv:m.ss.length=n.ss.length:=a7.len
 refine go ?_
 refine cU A (bY (z:=.agg #[jI 0,.slice none 0 0,.slice none 0 0,.slice none 0 0]) A A) fun b9=>?_
 refine cA (cs':=#[jI m.ins,m.sv,.slice none 0 0,.slice none 0 0]) (i:=0) (off:=0) (us:=[jI m.ins,m.sv,.slice none 0 0,.slice none 0 0]) A A A A A A A (aC A (aC am (aC A (aC A bH)))) A A A (go ?_)
 refine cM A (aF A A (fun w J=>aI (dZ n w (K.below J.bel) Y))) (go ?_)
 refine fK [rowE 145 2 (.slice none 0 0) (([]:List An).length) (([]:List An).flatMap anC),boxE b9 #[jI m.ins,m.sv,.slice none 0 0,.slice none 0 0] 125,rS9 148 3 m.sv m.ss sqC,rowE 3 1 tv ((evs2 n.fst.toNat).length) (mI (evs2 n.fst.toNat)),bigE ps,rS9 4 1 v3 bs blC,eB9 b2,nB9 b1 n] (fun w J=>J.nilRow 145 2) ?_
 refine uZ (α:=Nat) (β:=List Int) (γ:=List An) (δ:=Value×Value) (fun i e gs q=>[rS9 145 2 q.2 gs anC,boxE b9 #[jI m.ins,m.sv,q.2,.slice none 0 0] 125,rS9 148 3 m.sv m.ss sqC,rI9 3 q.1 e,bigE ps,rS9 4 1 v3 bs blC,eB9 b2,nB9 b1 n]) (fun i e gs q=>[(0,.agg #[jI n.ins,n.sv,n.av,n.ov]),(1,pI b1),(2,pI b2),(3,v3),(4,pI b9),(5,q.1),(6,jI (n.fst+(gs.length:Int))),(7,jI (i:Int)),(12,.bool false)]) (fun i e gs q=>i≤n.gs.length∧gs.length≤i∧AnsOk n.fst gs∧MapOk e (n.fst+(i:Int)) (n.fst+(gs.length:Int))) (fun i e gs q=>n.gs.length-i) 0 _ [] (_,_) ⟨O,AI,fun k hk=>absurd hk (Nat.not_lt_zero _),by have h9:=Ep (k:=n.fst.toNat) (m:=n.fst) O;rw[Int.toNat_of_nonneg O] at h9;simpa using h9⟩ (bE [5,4,3,2,1,0] _ (sk 6 (congrArg (fun x=>some (Value.int .i64 x)) AI) (aD [12,7] A)) A) (cZ A) fun i e gs q ap=>go ?_
 obtain⟨hi,c5,ag,Z⟩:=ap
 have bw:=Z.1
 refine aN A (bJ A A A (bA 7 A A)) (aN A (eV A A A (aE K.an)) ?_)
 refine aW A A A A A A (fun bd=>go ?_) (fun bd=>go ?_)
 have aa:=Y.an i O
 have aq:LtOk (n.gs.getD i an0).a (n.fst+(i:Int)):=aa.1
 have ar:LtOk (n.gs.getD i an0).b (n.fst+(i:Int)):=aa.2
 have au:=Z.two aq ar
 refine aN A (aP (cs:=[jI n.ins,n.sv,n.av,n.ov]) A A A A A (aM 7 A 0 A)) ?_
 refine cM A (aF A A (fun w J=>aI (dZ n w (K.below J.bel) Y))) (go ?_)
 refine aN A (cV 1 A A A A (aB 5 A)) ?_
 refine aN A (aL (u:=.bool ((bs.getD ((n.fst+(i:Int)).toNat) bl0).b)) A A A (aB 5 A) (dF blC (fun r=>.bool r.b) (fun _=>A) bs bl0 (show(n.fst+(i:Int)).toNat<_ by omega))) (bD (fun be=>go ?_) (fun be=>go ?_))
 refine eI A 15 [0,1,2,3,4,5,6,7,8,9,10,11,12,13,14] (List.take 15 _) (List.drop 15 _) [[],[],[1],[],[2,3],[4],[5],[],[7],[],[8,9],[10],[11],[6,12],[0,13]] [41,42,43,44,45,46,47,48,49,50,51,52,53,54,55] (fun i_ aw E B=>match i_ with|0=>E=q.1∧B=[]|1=>E=.pointer (some ⟨b1,0+2,none⟩)∧B=[]|2=>E=n.av∧B=[]|3=>E=jI (i:Int)∧B=[]|4=>E=elP n.av ((i:Int).toNat*2)∧B=[]|5=>E=elP n.av ((i:Int).toNat*2+0)∧B=[]|6=>E=jI ((n.gs.getD i an0).a)∧B=[]|7=>E=.pointer (some ⟨b1,0+2,none⟩)∧B=[]|8=>E=n.av∧B=[]|9=>E=jI (i:Int)∧B=[]|10=>E=elP n.av ((i:Int).toNat*2)∧B=[]|11=>E=elP n.av ((i:Int).toNat*2+1)∧B=[]|12=>E=jI ((n.gs.getD i an0).b)∧B=[]|13=>IsRow 3 1 2 (mI [(n.gs.getD i an0).a,(n.gs.getD i an0).b]) E B|14=>(fun v' post=>post=[rI9 3 v' ((mpS e ([(n.gs.getD i an0).a,(n.gs.getD i an0).b])))]) E B|_=>True) (take_append_drop 15 _).symm F F A A ?_ ?_
 refine⟨?_,?_,?_,?_,?_,?_,?_,?_,?_,?_,?_,?_,?_,?_,?_,trivial⟩
 intro vf D h
 exact fG A (aD [5] A) (aK (aU A))
 intro vf D h
 exact fG A (aD [1] A) (aK (fY 2 A A A))
 intro vf D h
 have e1:=h 1 V
 exact eH A (aX 42 e1.1 (aA _)) (aK (bJ A A A (bA 7 A A)))
 intro vf D h
 exact fG A (aD [7] A) (aK (aU A))
 intro vf D h
 have e2:=h 2 V
 have e3:=h 3 V
 exact eH A (aX 43 e2.1 (aX 44 e3.1 (aA _))) (aK (cV 2 A A A A (aE K.an)))
 intro vf D h
 have e4:=h 4 V
 exact eH A (aX 45 e4.1 (aA _)) (aK (bR (k0:=0) A A A (aE K.an) O))
 intro vf D h
 have e5:=h 5 V
 exact eH A (aX 46 e5.1 (aA _)) (aK (aL (u:=jI ((n.gs.getD i an0).a)) A A A (aE K.an) ((dC anC 2 (fun _=>A) n.gs an0 (show i<_ by omega) V).trans A)))
 intro vf D h
 exact fG A (aD [1] A) (aK (fY 2 A A A))
 intro vf D h
 have e7:=h 7 V
 exact eH A (aX 48 e7.1 (aA _)) (aK (bJ A A A (bA 7 A A)))
 intro vf D h
 exact fG A (aD [7] A) (aK (aU A))
 intro vf D h
 have e8:=h 8 V
 have e9:=h 9 V
 exact eH A (aX 49 e8.1 (aX 50 e9.1 (aA _))) (aK (cV 2 A A A A (aE K.an)))
 intro vf D h
 have bf:=h 10 V
 exact eH A (aX 51 bf.1 (aA _)) (aK (bR (k0:=1) A A A (aE K.an) O))
 intro vf D h
 have ah:=h 11 V
 exact eH A (aX 52 ah.1 (aA _)) (aK (aL (u:=jI ((n.gs.getD i an0).b)) A A A (aE K.an) ((dC anC 2 (fun _=>A) n.gs an0 (show i<_ by omega) V).trans A)))
 intro vf D h
 have e6:=h 6 V
 have ai:=h 12 V
 exact eH A (aX 47 e6.1 (aX 53 ai.1 (aA _))) (aH (z:=jI 0) (s:=1) (cs:=(mI [(n.gs.getD i an0).a,(n.gs.getD i an0).b])) A z8 A V A F A)
 intro vf D h
 have e0:=h 0 V
 obtain⟨bg,a0,a2⟩:=h 13 V
 refine Or.inl ⟨A,?_⟩
 exact bQ (aX 41 e0.1 (aX 54 a0 (aA _))) (by simp only[a2,a0,e0.2,fS]<;>rfl) (aF A A (fun w J=>lQ e ([(n.gs.getD i an0).a,(n.gs.getD i an0).b]) _ _ _ _ w ((aB 4 A) w J) ((aB 0 A) w J) Z O O (Gt aq ar) AI))
 intro vf D h
 obtain⟨bg,a0,a2⟩:=h 13 V
 obtain⟨a8,a3⟩:=dU (vf 14)
 obtain⟨c6,ab⟩:=dU (D 14)
 have ax:=h 14 V
 rw[a3,ab] at ax
 subst ax
 have q0:=h 0 V
 have q1:=h 1 V
 have q2:=h 2 V
 have q3:=h 3 V
 have q4:=h 4 V
 have q5:=h 5 V
 have q6:=h 6 V
 have q7:=h 7 V
 have q8:=h 8 V
 have q9:=h 9 V
 have bh:=h 10 V
 have aj:=h 11 V
 have ak:=h 12 V
 refine cL (bE [37,27,12,7,6,5,4,3,2,1,0] _ (aX 55 a3 (aA _)) A) (by simp only[a2,a0,ab,a3,q0.2,q1.2,q2.2,q3.2,q4.2,q5.2,q6.2,q7.2,q8.2,q9.2,bh.2,aj.2,ak.2,fS]<;>rfl) ?_
 simp only[drop_succ_cons,drop_zero]
 refine go ?_
 have ay:=qN e [(n.gs.getD i an0).a,(n.gs.getD i an0).b]
 simp only[length_cons,List.length_nil] at ay
 refine eI A 10 [0,1,2,3,4,5,6,7,8,9] (List.take 10 _) (List.drop 10 _) [[],[0],[],[2],[3],[],[5],[6],[4,7],[8]] [56,57,58,59,60,61,62,63,64,65] (fun i_ aw E B=>match i_ with|0=>E=.pointer (some ⟨b9,0+2,none⟩)∧B=[]|1=>E=q.2∧B=[]|2=>E=a8∧B=[]|3=>E=elP a8 ((0:Int).toNat*1)∧B=[]|4=>E=jI ((mpS e ([(n.gs.getD i an0).a,(n.gs.getD i an0).b])).getD 0 0)∧B=[]|5=>E=a8∧B=[]|6=>E=elP a8 ((1:Int).toNat*1)∧B=[]|7=>E=jI ((mpS e ([(n.gs.getD i an0).a,(n.gs.getD i an0).b])).getD 1 0)∧B=[]|8=>E=.agg #[jI ((mpS e ([(n.gs.getD i an0).a,(n.gs.getD i an0).b])).getD 0 0),jI ((mpS e ([(n.gs.getD i an0).a,(n.gs.getD i an0).b])).getD 1 0)]∧B=[]|9=>IsRow 145 2 1 ([(mpS e ([(n.gs.getD i an0).a,(n.gs.getD i an0).b])).getD 0 0,(mpS e ([(n.gs.getD i an0).a,(n.gs.getD i an0).b])).getD 1 0].map (Value.int .i64)) E B|_=>True) (take_append_drop 10 _).symm F F A A ?_ ?_
 refine⟨?_,?_,?_,?_,?_,?_,?_,?_,?_,?_,trivial⟩
 intro vf D h
 exact fG A (aD [4] A) (aK (fY 2 A A A))
 intro vf D h
 have e0:=h 0 V
 exact eH A (aX 56 e0.1 (aA _)) (aK (bJ A A A (bA 3 A A)))
 intro vf D h
 exact fG A (aD [8] A) (aK (aU A))
 intro vf D h
 have e2:=h 2 V
 exact eH A (aX 58 e2.1 (aA _)) (aK (cV 1 A A A A (aB 1 A)))
 intro vf D h
 have e3:=h 3 V
 exact eH A (aX 59 e3.1 (aA _)) (aK (aL (u:=jI ((mpS e ([(n.gs.getD i an0).a,(n.gs.getD i an0).b])).getD 0 0)) A A A (aB 1 A) (cJ (show _<(mpS e ([(n.gs.getD i an0).a,(n.gs.getD i an0).b])).length by omega))))
 intro vf D h
 exact fG A (aD [8] A) (aK (aU A))
 intro vf D h
 have e5:=h 5 V
 exact eH A (aX 61 e5.1 (aA _)) (aK (cV 1 A A A A (aB 1 A)))
 intro vf D h
 have e6:=h 6 V
 exact eH A (aX 62 e6.1 (aA _)) (aK (aL (u:=jI ((mpS e ([(n.gs.getD i an0).a,(n.gs.getD i an0).b])).getD 1 0)) A A A (aB 1 A) (cJ (show _<(mpS e ([(n.gs.getD i an0).a,(n.gs.getD i an0).b])).length by omega))))
 intro vf D h
 have e4:=h 4 V
 have e7:=h 7 V
 exact fG A (aX 60 e4.1 (aX 63 e7.1 (aA _))) (aK (dG (cs:=#[jI ((mpS e ([(n.gs.getD i an0).a,(n.gs.getD i an0).b])).getD 0 0),jI ((mpS e ([(n.gs.getD i an0).a,(n.gs.getD i an0).b])).getD 1 0)]) A A A))
 intro vf D h
 have e8:=h 8 V
 exact eH A (aX 64 e8.1 (aA _)) (aH (z:=.agg #[jI 0,jI 0]) (s:=2) (cs:=([(mpS e ([(n.gs.getD i an0).a,(n.gs.getD i an0).b])).getD 0 0,(mpS e ([(n.gs.getD i an0).a,(n.gs.getD i an0).b])).getD 1 0].map (Value.int .i64))) A Tryz.underlying123 A V A F A)
 intro vf D h
 have e1:=h 1 V
 obtain⟨c7,az,bi⟩:=h 9 V
 have q0:=h 0 V
 have q1:=h 1 V
 have q2:=h 2 V
 have q3:=h 3 V
 have q4:=h 4 V
 have q5:=h 5 V
 have q6:=h 6 V
 have q7:=h 7 V
 have q8:=h 8 V
 refine cL (bE [37,27,12,8,7,6,5,4,3,2,1,0] _ (aX 57 e1.1 (aX 65 az (aA _))) A) (by simp only[bi,az,q0.2,q1.2,q2.2,q3.2,q4.2,q5.2,q6.2,q7.2,q8.2,fS]<;>rfl) ?_
 simp only[drop_succ_cons,drop_zero]
 refine bT (i:=3) (z:=.agg #[jI 0,jI 0]) (bytes:=16) A A A A Tryz.underlying123 F A A A A (aB 0 A) (bI _) AC (bK gs [(An.mk ((mpS e [(n.gs.getD i an0).a,(n.gs.getD i an0).b]).getD 0 0) ((mpS e [(n.gs.getD i an0).a,(n.gs.getD i an0).b]).getD 1 0))]) (dP anC gs (An.mk ((mpS e [(n.gs.getD i an0).a,(n.gs.getD i an0).b]).getD 0 0) ((mpS e [(n.gs.getD i an0).a,(n.gs.getD i an0).b]).getD 1 0)) _ A) (fun _=>A) fun b0=>go ?_
 refine eE (i:=3) A (fun b3=>?_)
 refine gB (i:=4) (cs':=#[jI m.ins,m.sv,b0,.slice none 0 0]) A A A A A A b3 A A A A (go ?_)
 refine aN A (eZ A A A AE) ?_
 refine cH A (aH (z:=jI 0) (s:=1) (cs:=(mI [2*(n.fst+(gs.length:Int))])) A z8 A V A F A) fun c8=>?_
 refine bT (i:=7) (z:=jI 0) (bytes:=8) A A A A z8 F A A A A (aB 0 A) (bI _) AD (bK e ([2*(n.fst+(gs.length:Int))])) (cB e ([2*(n.fst+(gs.length:Int))])) (fun _=>A) fun bj=>go ?_
 have bx:(gs++[(An.mk ((mpS e [(n.gs.getD i an0).a,(n.gs.getD i an0).b]).getD 0 0) ((mpS e [(n.gs.getD i an0).a,(n.gs.getD i an0).b]).getD 1 0))]).length=gs.length+1:=by rw[length_append,length_singleton]
 have b4:AnsOk n.fst (gs++[(An.mk ((mpS e [(n.gs.getD i an0).a,(n.gs.getD i an0).b]).getD 0 0) ((mpS e [(n.gs.getD i an0).a,(n.gs.getD i an0).b]).getD 1 0))]):=Fa ag au.1 au.2
 have a4:MapOk (e++([2*(n.fst+(gs.length:Int))])) (n.fst+((i+1:Nat):Int)) (n.fst+((gs++[(An.mk ((mpS e [(n.gs.getD i an0).a,(n.gs.getD i an0).b]).getD 0 0) ((mpS e [(n.gs.getD i an0).a,(n.gs.getD i an0).b]).getD 1 0))]).length:Int)):=by have h9:=(Z.up (m':=n.fst+((gs++[(An.mk ((mpS e [(n.gs.getD i an0).a,(n.gs.getD i an0).b]).getD 0 0) ((mpS e [(n.gs.getD i an0).a,(n.gs.getD i an0).b]).getD 1 0))]).length:Int)) O).app (x:=2*(n.fst+(gs.length:Int))) (by unfold LtOk;omega);rwa [show n.fst+(i:Int)+1=n.fst+((i+1:Nat):Int) by omega] at h9
 exact dH (i+1) (e++([2*(n.fst+(gs.length:Int))])) (gs++[(An.mk ((mpS e [(n.gs.getD i an0).a,(n.gs.getD i an0).b]).getD 0 0) ((mpS e [(n.gs.getD i an0).a,(n.gs.getD i an0).b]).getD 1 0))]) (bj,b0) ⟨O,O,b4,a4⟩ O (bE [5,4,3,2,1,0] _ (sk 6 (congrArg (fun x=>some (Value.int .i64 x)) (by first|rfl|(rw[length_append,length_singleton];omega))) (aD [12,7] A)) A) (eA [4,0,0,0,0,0,0,0] A)
 refine cH A (aH (z:=jI 0) (s:=1) (cs:=(mI [0])) A z8 A V A F A) fun c9=>?_
 refine bT (i:=4) (z:=jI 0) (bytes:=8) A A A A z8 F A A A A (aB 0 A) (bI _) AD (bK e ([0])) (cB e ([0])) (fun _=>A) fun bk=>go ?_
 have a4:MapOk (e++[0]) (n.fst+((i+1:Nat):Int)) (n.fst+(gs.length:Int)):=by have h9:=Z.app (x:=0) (by unfold LtOk;omega);rwa [show n.fst+(i:Int)+1=n.fst+((i+1:Nat):Int) by omega] at h9
 exact dH (i+1) (e++([0])) gs (bk,q.2) ⟨O,O,ag,a4⟩ O (bE [5,4,3,2,1,0] _ (sk 6 (congrArg (fun x=>some (Value.int .i64 x)) (by first|rfl|(rw[length_append,length_singleton];omega))) (aD [12,7] A)) A) (eA [1,0,0,0,0,0,0,0] A)
 have M:MapOk e n.cnt (n.fst+(gs.length:Int)):=by have h9:=Z;rwa [show n.fst+(i:Int)=n.cnt by omega] at h9
 refine vA (α:=Nat) (β:=List Sq) (γ:=List HP) (fun G zs U=>[rS9 145 2 q.2 gs anC,boxE b9 #[jI m.ins,m.sv,q.2,.slice none 0 0] 125,rS9 148 3 m.sv zs sqC,rI9 3 q.1 e,bigE U,rS9 4 1 v3 bs blC,eB9 b2,nB9 b1 n]) (fun G zs U=>[(0,.agg #[jI n.ins,n.sv,n.av,n.ov]),(1,pI b1),(2,pI b2),(3,v3),(4,pI b9),(5,q.1),(6,jI (n.fst+(gs.length:Int))),(7,jI (i:Int)),(9,jI (G:Int)),(12,.bool false),(27,.bool false)]) (fun G zs U=>G≤m.ss.length∧SInv m.ss G (n.fst+(gs.length:Int)) zs∧∀w,(bigE U).holds w→RdsSqs w zs) (fun G zs U=>m.ss.length-G) 0 m.ss _ ⟨Nat.zero_le _,SInv.start _ _,ba⟩ (bV A) (cZ A) fun G zs U b5=>go ?_
 obtain⟨ca,a5,ac⟩:=b5
 have cb:=a5.len
 refine aW A A A A A A (fun bl=>go ?_) (fun bl=>go ?_)
 have bz:=(Y.sq _ (dJ (d:=sq0) (show G<n.ss.length by have:=a7.len;omega))).len
 have bm:=(a5.same (k:=G) O).trans (Gy a7 (k:=G) O)
 refine eI A 13 [0,1,2,3,4,5,6,7,8,9,10,11,12] (List.take 13 _) (List.drop 13 _) [[],[0],[],[],[],[4],[],[5,6],[7],[8],[3,9],[1,2],[11]] [82,83,84,85,86,87,88,89,90,91,92,93,94] (fun i_ aw E B=>match i_ with|0=>E=.pointer (some ⟨b9,0+1,none⟩)∧B=[]|1=>E=m.sv∧B=[]|2=>E=jI (G:Int)∧B=[]|3=>E=q.1∧B=[]|4=>E=.pointer (some ⟨b1,0+1,none⟩)∧B=[]|5=>E=n.sv∧B=[]|6=>E=jI (G:Int)∧B=[]|7=>E=elP n.sv ((G:Int).toNat*3)∧B=[]|8=>E=elP n.sv ((G:Int).toNat*3+2)∧B=[]|9=>E=(n.ss.getD G sq0).iv∧B=[]|10=>(fun v' post=>post=[rI9 3 v' ((mpS e ((n.ss.getD G sq0).xs)))]) E B|11=>E=elP m.sv ((G:Int).toNat*3)∧B=[]|12=>E=elP m.sv ((G:Int).toNat*3+2)∧B=[]|_=>True) (take_append_drop 13 _).symm F F A A ?_ ?_
 refine⟨?_,?_,?_,?_,?_,?_,?_,?_,?_,?_,?_,?_,?_,trivial⟩
 intro vf D h
 exact fG A (aD [4] A) (aK (fY 1 A A A))
 intro vf D h
 have e0:=h 0 V
 exact eH A (aX 82 e0.1 (aA _)) (aK (bJ A A A (bA 1 A A)))
 intro vf D h
 exact fG A (aD [9] A) (aK (aU A))
 intro vf D h
 exact fG A (aD [5] A) (aK (aU A))
 intro vf D h
 exact fG A (aD [1] A) (aK (fY 1 A A A))
 intro vf D h
 have e4:=h 4 V
 exact eH A (aX 86 e4.1 (aA _)) (aK (bJ A A A (bA 7 A A)))
 intro vf D h
 exact fG A (aD [9] A) (aK (aU A))
 intro vf D h
 have e5:=h 5 V
 have e6:=h 6 V
 exact eH A (aX 87 e5.1 (aX 88 e6.1 (aA _))) (aK (cV 3 A A A A (aE K.sq)))
 intro vf D h
 have e7:=h 7 V
 exact eH A (aX 89 e7.1 (aA _)) (aK (bR (k0:=2) A A A (aE K.sq) O))
 intro vf D h
 have e8:=h 8 V
 exact eH A (aX 90 e8.1 (aA _)) (aK (aL (u:=(n.ss.getD G sq0).iv) A A A (aE K.sq) ((dC sqC 3 (fun _=>A) n.ss sq0 (show G<_ by omega) V).trans A)))
 intro vf D h
 have e3:=h 3 V
 have e9:=h 9 V
 exact eH A (aX 85 e3.1 (aX 91 e9.1 (aA _))) (aF A A (fun w J=>lQ e ((n.ss.getD G sq0).xs) _ _ _ _ w ((aB 3 A) w J) ((aE (K.at (k:=G) O)) w J) M O O (Y.xs _ (dJ (d:=sq0) O)) O))
 intro vf D h
 have e1:=h 1 V
 have e2:=h 2 V
 exact eH A (aX 83 e1.1 (aX 84 e2.1 (aA _))) (aK (cV 3 A A A A (aB 2 A)))
 intro vf D h
 have ah:=h 11 V
 exact eH A (aX 93 ah.1 (aA _)) (aK (bR (k0:=2) A A A (aB 2 A) O))
 intro vf D h
 obtain⟨a9,a6⟩:=dU (vf 10)
 obtain⟨cc,ad⟩:=dU (D 10)
 have b6:=h 10 V
 rw[a6,ad] at b6
 subst b6
 have ai:=h 12 V
 have q0:=h 0 V
 have q1:=h 1 V
 have q2:=h 2 V
 have q3:=h 3 V
 have q4:=h 4 V
 have q5:=h 5 V
 have q6:=h 6 V
 have q7:=h 7 V
 have q8:=h 8 V
 have q9:=h 9 V
 have aj:=h 11 V
 have ak:=h 12 V
 refine cL (bE [79,27,12,9,7,6,5,4,3,2,1,0] _ (aX 92 a6 (aX 94 ai.1 (aA _))) A) (by simp only[ad,a6,q0.2,q1.2,q2.2,q3.2,q4.2,q5.2,q6.2,q7.2,q8.2,q9.2,aj.2,ak.2,fS]<;>rfl) ?_
 simp only[drop_succ_cons,drop_zero]
 refine eE (i:=0) A (fun b7=>?_)
 refine dS (i:=3) (n':=(zs.set G (Sq.mk (zs.getD G sq0).kd (zs.getD G sq0).it a9 (mpS e ((n.ss.getD G sq0).xs)))).length) (xs':=((zs.set G (Sq.mk (zs.getD G sq0).kd (zs.getD G sq0).it a9 (mpS e ((n.ss.getD G sq0).xs)))).flatMap sqC)) A A A A A A b7 A AA List.length_set.symm (rC sqC 3 (fun _=>A) _ sq0 _ AA V A) A (go ?_)
 have M:MapOk e n.cnt (n.fst+(gs.length:Int)):=by have h9:=Z;rwa [show n.fst+(i:Int)=n.cnt by omega] at h9
 refine bN 9 [8,7,6,4,3,2,1,0,5] A A V ?_
 refine dN 2 A ?_
 refine bN 8 [7,6,5,0,4,3,2,1] A A V ?_
 exact aQ (G+1) (zs.set G (Sq.mk (zs.getD G sq0).kd (zs.getD G sq0).it a9 (mpS e ((n.ss.getD G sq0).xs)))) [bigE U,rowE 3 1 a9 ((mpS e ((n.ss.getD G sq0).xs)).length) (mI (mpS e ((n.ss.getD G sq0).xs)))] ⟨O,a5.step O (by show(_,_,(mpS _ _).length)=_;rw[qN,←bm];rfl) (yG M (Y.xs _ (dJ (d:=sq0) O))),fun w hw=>(ac w (bF hw eG)).set (cI (bF hw (fW eG)))⟩ O (bV A) (cZ A)
 refine aN A (bJ A A A (bA 7 A A)) ?_
 refine fF A A A (aF A A (fun w J=>lQ e n.os _ _ _ _ w ((aB 3 A) w J) ((aE K.ou) w J) M O O Y.ou O)) fun X cd bn=>?_
 subst bn
 refine go ?_
 refine eE (i:=0) A (fun ae=>?_)
 refine gB (i:=2) (cs':=#[jI m.ins,m.sv,q.2,X]) A A A A A A ae A A A A (go ?_)
 refine eE (i:=1) A (fun b8=>?_)
 refine cA (cs':=#[jI m.ins,m.sv,q.2,X]) (i:=7) (off:=0) (us:=[jI m.ins,m.sv,q.2,X]) A A A A A A A (aC A (aC am (aC b8 (aC ae bH)))) A A A (go ?_)
 refine gC (fun w J=>(aB 3 A w J).one) (fun al=>?_)
 refine gC (fun w J=>(aB 1 A w J).one) (fun bo=>?_)
 refine gC (fun w J=>(aB 0 A w J).one) (fun bp=>?_)
 have af:=tZ (n:=n) (sv:=m.sv) (av:=q.2) (ov:=X) (zs:=zs) (gs:=gs) (os:=(mpS e n.os)) a7 ao a5.sk ag O (a5.all O) (yG M Y.ou) (by rw[qN];omega)
 refine bN 9 [7,0,1,5,3] A A V ?_
 refine dN 4 A ?_
 exact eQ (rs:=[.cell 2 125]) (vs:=[.agg #[jI m.ins,m.sv,q.2,X]]) (post:=[bigE [rS9 148 3 m.sv zs sqC,bigE U,rS9 145 2 q.2 gs anC,rowE 3 1 X ((mpS e n.os).length) (mI (mpS e n.os))]]) A ⟨⟨b2,0,[jI m.ins,m.sv,q.2,X],A,A,F,F,aM 1 A 0 A⟩,trivial⟩ A (eA [0] A) ⟨_,(Nt.mk m.ins m.sv q.2 X zs gs (mpS e n.os)),A,A,fun w hw=>⟨cI (bF hw eG),ac w (bF hw (fW eG)),cI (bF hw (fW (fW eG))),cI (bF hw (fW (fW (fW eG))))⟩,⟨al,bo,bp⟩,af.1,af.2,(by show gs.length≤_;omega)⟩
theorem uR (n o:Nt) (B:List Int) (tv:Value) (ps:List HP) (w0:World) (l:List HP) (w:World) (aa:Mem w0 (rS9 148 3 o.sv o.ss sqC::rI9 3 tv B::bigE ps::l) w) (hr:∀w,Mem w0 l w→RdsNt w n) (ab:n.sv.oneCell'=true∧n.av.oneCell'=true∧n.ov.oneCell'=true) (hn:NtOk n) (ho:NtOk o) (U:Skel n o) (X:MapOk B n.cnt o.cnt) (a4:∀w,(bigE ps).holds w→NtRest w o) (ap:o.sv.oneCell'=true∧o.av.oneCell'=true∧o.ov.oneCell'=true) :
   Calls Tryz.prog 120 #[.agg #[.int .i64 o.ins,o.sv,o.av,o.ov],.agg #[.int .i64 n.ins,n.sv,n.av,n.ov],tv] w (fun e_ w_=>∃G E,e_=.returned G∧(fun u_ E=>∃(ps:List HP) (m:Nt),u_=m.agg∧E=bigE ps∧(∀w,(bigE ps).holds w→RdsNt w m)∧(m.sv.oneCell'=true∧m.av.oneCell'=true∧m.ov.oneCell'=true)∧NtOk m∧Skel n m∧m.gs.length≤o.gs.length) G E∧Mem w0 (E::l) w_):=by
 have b7:=hn.i0
 have b8:=hn.i1
 have b9:=hn.s1
 have ba:=hn.a1
 have bb:=hn.o1
 have aq:n.cnt=1+n.ins+n.ss.length+n.gs.length:=rfl
 have ar:n.fst=1+n.ins+n.ss.length:=rfl
 obtain⟨au,aw,ax,ay,az,b0⟩:=Et ho
 have b4:=U.len
 have b5:=X.1
 refine gE (N:=35) (args:=[.agg #[jI o.ins,o.sv,o.av,o.ov],.agg #[jI n.ins,n.sv,n.av,n.ov],tv]) Tryz.func120 A A aa (dW ?_)
 refine cU A (cE A A) fun b1=>?_
 refine cU A (cE A A) fun b2=>?_
 refine cU A (bY (z:=.agg #[jI 0,.slice none 0 0,.slice none 0 0,.slice none 0 0]) A A) fun b3=>go ?_
 refine fP (α:=Nat) (β:=List Sq) (γ:=List HP) [0,1,2,3,4,6] A (fun e zs J=>(eB9 b3::nB9 b2 n::nB9 b1 o::rS9 148 3 o.sv zs sqC::rI9 3 tv B::bigE J::l)) (fun e zs J=>[(7,jI (e:Int))]) (fun e zs J=>e≤o.ss.length∧SInv o.ss e o.cnt zs∧∀w,(bigE J).holds w→RdsSqs w zs∧RdsW w o.av 2 o.gs.length (o.gs.flatMap anC)) (fun e zs J=>o.ss.length-e) 0 o.ss _ ⟨Nat.zero_le _,SInv.start _ _,(fun w hw=>⟨(a4 w hw).xs,(a4 w hw).an⟩)⟩ (bV A) (.refl _) fun e zs J ac=>go ?_
 obtain⟨bc,Y,K⟩:=ac
 have bd:=Y.len
 refine aW A A A A A A (fun h5=>go ?_) (fun h5=>go ?_)
 have b6:=(hn.sq _ (dJ (d:=sq0) (show e<n.ss.length by omega))).len
 have ad:=(Y.same (k:=e) O).trans (Gy U (k:=e) O)
 refine eI A 13 [0,1,2,3,4,5,6,7,8,9,10,11,12] (List.take 13 _) (List.drop 13 _) [[],[0],[],[],[],[4],[],[5,6],[7],[8],[3,9],[1,2],[11]] [15,16,17,18,19,20,21,22,23,24,25,26,27] (fun i_ be G E=>match i_ with|0=>G=.pointer (some ⟨b1,0+1,none⟩)∧E=[]|1=>G=o.sv∧E=[]|2=>G=jI (e:Int)∧E=[]|3=>G=tv∧E=[]|4=>G=.pointer (some ⟨b2,0+1,none⟩)∧E=[]|5=>G=n.sv∧E=[]|6=>G=jI (e:Int)∧E=[]|7=>G=elP n.sv ((e:Int).toNat*3)∧E=[]|8=>G=elP n.sv ((e:Int).toNat*3+2)∧E=[]|9=>G=(n.ss.getD e sq0).iv∧E=[]|10=>(fun v' post=>post=[rI9 3 v' ((mpS B ((n.ss.getD e sq0).xs)))]) G E|11=>G=elP o.sv ((e:Int).toNat*3)∧E=[]|12=>G=elP o.sv ((e:Int).toNat*3+2)∧E=[]|_=>True) (take_append_drop 13 _).symm F F A A ?_ ?_
 refine⟨?_,?_,?_,?_,?_,?_,?_,?_,?_,?_,?_,?_,?_,trivial⟩
 intro vf M h
 exact fG A (aD [3] A) (aK (fY 1 A A A))
 intro vf M h
 have e0:=h 0 V
 exact eH A (aX 15 e0.1 (aA _)) (aK (bJ A A A (bA 2 A A)))
 intro vf M h
 exact fG A (aD [7] A) (aK (aU A))
 intro vf M h
 exact fG A (aD [2] A) (aK (aU A))
 intro vf M h
 exact fG A (aD [4] A) (aK (fY 1 A A A))
 intro vf M h
 have e4:=h 4 V
 exact eH A (aX 19 e4.1 (aA _)) (aK (bJ A A A (bA 1 A A)))
 intro vf M h
 exact fG A (aD [7] A) (aK (aU A))
 intro vf M h
 have e5:=h 5 V
 have e6:=h 6 V
 exact eH A (aX 20 e5.1 (aX 21 e6.1 (aA _))) (aK (cV 3 A A A A (fun w D=>(hr w (D.sub (pR 6 A))).sq)))
 intro vf M h
 have e7:=h 7 V
 exact eH A (aX 22 e7.1 (aA _)) (aK (bR (k0:=2) A A A (fun w D=>(hr w (D.sub (pR 6 A))).sq) O))
 intro vf M h
 have e8:=h 8 V
 exact eH A (aX 23 e8.1 (aA _)) (aK (aL (u:=(n.ss.getD e sq0).iv) A A A (fun w D=>(hr w (D.sub (pR 6 A))).sq) ((dC sqC 3 (fun _=>A) n.ss sq0 (show e<_ by omega) V).trans A)))
 intro vf M h
 have e3:=h 3 V
 have e9:=h 9 V
 exact eH A (aX 18 e3.1 (aX 24 e9.1 (aA _))) (aF A A (fun w D=>lQ B ((n.ss.getD e sq0).xs) _ _ _ _ w ((aB 4 A) w D) ((fun w D=>(hr w (D.sub (pR 6 A))).at (k:=e) O) w D) X O O (hn.xs _ (dJ (d:=sq0) O)) O))
 intro vf M h
 have e1:=h 1 V
 have e2:=h 2 V
 exact eH A (aX 16 e1.1 (aX 17 e2.1 (aA _))) (aK (cV 3 A A A A (aB 3 A)))
 intro vf M h
 have ae:=h 11 V
 exact eH A (aX 26 ae.1 (aA _)) (aK (bR (k0:=2) A A A (aB 3 A) O))
 intro vf M h
 obtain⟨v6,Z⟩:=dU (vf 10)
 obtain⟨p7,a0⟩:=dU (M 10)
 have R8:=h 10 V
 rw[Z,a0] at R8
 subst R8
 have af:=h 12 V
 have q0:=h 0 V
 have q1:=h 1 V
 have q2:=h 2 V
 have q3:=h 3 V
 have q4:=h 4 V
 have q5:=h 5 V
 have q6:=h 6 V
 have q7:=h 7 V
 have q8:=h 8 V
 have q9:=h 9 V
 have ag:=h 11 V
 have ah:=h 12 V
 refine cL (bE [12,7,6,4,3,2,1,0] _ (aX 25 Z (aX 27 af.1 (aA _))) A) (by simp only[a0,Z,q0.2,q1.2,q2.2,q3.2,q4.2,q5.2,q6.2,q7.2,q8.2,q9.2,ag.2,ah.2,fS]<;>rfl) ?_
 simp only[drop_succ_cons,drop_zero]
 refine eE (i:=0) A (fun ai=>?_)
 refine dS (i:=4) (n':=(zs.set e (Sq.mk (zs.getD e sq0).kd (zs.getD e sq0).it v6 (mpS B ((n.ss.getD e sq0).xs)))).length) (xs':=((zs.set e (Sq.mk (zs.getD e sq0).kd (zs.getD e sq0).it v6 (mpS B ((n.ss.getD e sq0).xs)))).flatMap sqC)) A A A A A A ai A AA List.length_set.symm (rC sqC 3 (fun _=>A) _ sq0 _ AA V A) A (go ?_)
 refine bN 7 [5,4,3,2,1,0,6] A A V ?_
 refine dN 2 A ?_
 refine bN 6 [0,5,4,3,2,1] A A V ?_
 exact aQ (e+1) (zs.set e (Sq.mk (zs.getD e sq0).kd (zs.getD e sq0).it v6 (mpS B ((n.ss.getD e sq0).xs)))) [bigE J,rowE 3 1 v6 ((mpS B ((n.ss.getD e sq0).xs)).length) (mI (mpS B ((n.ss.getD e sq0).xs)))] ⟨O,Y.step O (by show(_,_,(mpS _ _).length)=_;rw[qN,←ad];rfl) (yG X (hn.xs _ (dJ (d:=sq0) O))),fun w hw=>⟨(K w (bF hw eG)).1.set (cI (bF hw (fW eG))),(K w (bF hw eG)).2⟩⟩ O (bV A) (.refl _)
 refine fF A A A (aF A A (fun w D=>lQ B n.os _ _ _ _ w ((aB 4 A) w D) ((fun w D=>(hr w (D.sub (pR 6 A))).ou) w D) X O O hn.ou O)) fun a3 bf aj=>?_
 subst aj
 refine go ?_
 refine eE (i:=0) A (fun a5=>?_)
 refine gB (i:=3) (cs':=#[jI o.ins,o.sv,o.av,a3]) A A A A A A a5 A A A A (go ?_)
 have a2:=tZ (n:=n) (m:=o) (sv:=o.sv) (av:=o.av) (ov:=a3) (zs:=zs) (gs:=o.gs) (os:=(mpS B n.os)) U ho Y.sk (by have h9:=ho.an;rw[U.fst] at h9;exact h9) ho.a1 (by have h9:=Y.all O;rwa [show o.cnt=n.fst+(o.gs.length:Int) by rw[←U.fst];rfl] at h9) (by have h9:=yG X hn.ou;rwa [show o.cnt=n.fst+(o.gs.length:Int) by rw[←U.fst];rfl] at h9) (by rw[qN];omega)
 refine fF A A A (aF A A (fun w D=>Gl (Nt.mk o.ins o.sv o.av (a3) zs o.gs (mpS B n.os)) w ⟨aB 4 A w D,(K w (D.holds _ (cT (i:=6) A))).1,(K w (D.holds _ (cT (i:=6) A))).2,aB 0 A w D⟩ a2.1)) fun bg bh ak=>?_
 obtain⟨qs,m,rfl,rfl,al,⟨a6,a7,a8⟩,a9,am,ao⟩:=ak
 refine cA (cs':=#[jI m.ins,m.sv,m.av,m.ov]) (i:=2) (off:=0) (us:=[jI m.ins,m.sv,m.av,m.ov]) A A A A A A A (aC A (aC a6 (aC a7 (aC a8 bH)))) A A A (go ?_)
 exact fU (rs:=[.cell 6 125]) (vs:=[.agg #[jI m.ins,m.sv,m.av,m.ov]]) A ⟨⟨b3,0,[jI m.ins,m.sv,m.av,m.ov],A,A,F,F,aM 2 A 0 A⟩,trivial⟩ A (fun w D=>⟨_,bigE qs,A,⟨_,m,A,A,al,⟨a6,a7,a8⟩,a9,a2.2.trans am,ao⟩,D.sub (.cons_cons _ (pR 7 A))⟩)
theorem wA (n o:Nt) (e:List Int) (E:Value) (ps:List HP) (w0:World) (l:List HP) (w:World) (G:Mem w0 (bigE [rS9 148 3 o.sv o.ss sqC,rI9 3 E e,bigE ps]::l) w) (B:RdsNt w0 n) (X:NtOk n) (Y:NtOk o) (J:Skel n o) (K:MapOk e n.cnt o.cnt) (M:∀w,(bigE ps).holds w→NtRest w o) (h:o.sv.oneCell'=true∧o.av.oneCell'=true∧o.ov.oneCell'=true) :
    Calls Tryz.prog 120 #[o.agg,n.agg,E] w (fun Z w_=>∃U D,Z=.returned U∧(fun u_ D=>∃(ps:List HP) (m:Nt),u_=m.agg∧D=bigE ps∧(∀w,(bigE ps).holds w→RdsNt w m)∧(m.sv.oneCell'=true∧m.av.oneCell'=true∧m.ov.oneCell'=true)∧NtOk m∧Skel n m∧m.gs.length≤o.gs.length) U D∧Mem w0 (D::l) w_):=
  uR n o e E ps w0 l w G.unbig (fun w G=>B.below G.bel) ⟨B.sq.one,B.an.one,B.ou.one⟩ X Y J K M h
theorem Jf (n:Nt) (w:World) (hr:RdsNt w n) (hn:NtOk n) :
   Calls Tryz.prog 107 #[.agg #[.int .i64 n.ins,n.sv,n.av,n.ov]] w (Ret w (fun u_ G=>∃(ps:List HP) (m:Nt),u_=m.agg∧G=[bigE ps]∧(∀w,(bigE ps).holds w→RdsNt w m)∧(m.sv.oneCell'=true∧m.av.oneCell'=true∧m.ov.oneCell'=true)∧NtOk m∧Skel n m∧m.gs.length≤n.gs.length)):=by
 have dd:=hn.i0
 have de:=hn.i1
 have df:=hn.s1
 have dg:=hn.a1
 have dh:=hn.o1
 have d3:n.cnt=1+n.ins+n.ss.length+n.gs.length:=rfl
 have d4:n.fst=1+n.ins+n.ss.length:=rfl
 refine aY (N:=74) (args:=[.agg #[jI n.ins,n.sv,n.av,n.ov]]) Tryz.func107 A A (dW ?_)
 refine cU A (cE A A) fun b1=>?_
 refine cU A (bY (z:=.agg #[jI 0,.slice none 0 0,.slice none 0 0,.slice none 0 0]) A A) fun b2=>go ?_
 refine cM A (aF A A (fun w hm=>aI (gG n w (hr.below hm.bel) hn))) (go ?_)
 refine fF A A A (aF A A (fun w hm=>qV n w (hr.below hm.bel) hn)) fun v3 p4 R5=>?_
 obtain⟨ps,m,tv,rfl,rfl,a9,al,⟨ag,ah,ab,ac⟩,a7,am⟩:=R5
 simp only[Nt.agg,ag,ah]
 have d5:m.ss.length=n.ss.length:=a7.len
 have b0:NtOk (Nt.mk m.ins m.sv (.slice none 0 0) (.slice none 0 0) m.ss [] []):=by have h9:=am;cases m;simp only at ag ah ab ac;subst ag ah ab ac;exact h9
 have ad:Skel n (Nt.mk m.ins m.sv (.slice none 0 0) (.slice none 0 0) m.ss [] []):=⟨a7.ins,a7.ss⟩
 refine go ?_
 refine cU A (bY (z:=.agg #[jI 0,.slice none 0 0,.slice none 0 0,.slice none 0 0]) A A) fun b6=>?_
 refine cA (cs':=#[jI m.ins,m.sv,.slice none 0 0,.slice none 0 0]) (i:=0) (off:=0) (us:=[jI m.ins,m.sv,.slice none 0 0,.slice none 0 0]) A A A A A A A (aC A (aC al (aC A (aC A bH)))) A A A (go ?_)
 refine mS (α:=Nat) (β:=Nt) (γ:=CRow) (δ:=List HP) [0,1,2,3,10] A (fun i o X ps=>[nB9 b6 o,rS9 148 3 o.sv o.ss sqC,rI9 3 X.v X.xs,bigE ps,eB9 b2,nB9 b1 n]) (fun i o X ps=>[(4,X.v),(5,jI (i:Int))]) (fun i o X ps=>i≤n.gs.length∧NtOk o∧Skel n o∧o.gs.length≤i∧MapOk X.xs (n.fst+(i:Int)) o.cnt∧(∀w,(bigE ps).holds w→NtRest w o)∧(o.sv.oneCell'=true∧o.av.oneCell'=true∧o.ov.oneCell'=true)) (fun i o X ps=>n.gs.length-i) 0 (Nt.mk m.ins m.sv (.slice none 0 0) (.slice none 0 0) m.ss [] []) (CRow.mk _ (evs2 n.fst.toNat)) _ ⟨O,b0,ad,AI,by have h9:=Ep (k:=n.fst.toNat) (m:=n.fst) O;rw[Int.toNat_of_nonneg O] at h9;rw[show(Nt.mk m.ins m.sv (.slice none 0 0) (.slice none 0 0) m.ss [] []).cnt=n.fst by rw[←ad.fst];exact Int.add_zero _];simpa using h9,fun w hw=>⟨a9 w hw,(rS (w0:=w) (l:=[]) w (Mem.refl w)),(rS (w0:=w) (l:=[]) w (Mem.refl w))⟩,⟨al,A,A⟩⟩ (bV A) (cZ A) fun i o X ps b3=>go ?_
 obtain⟨hi,ho,a7,di,a2,a9,⟨b4,b5,b7⟩⟩:=b3
 have d6:=a2.1
 obtain⟨d7,d8,d9,da,db,dc⟩:=Et ho
 refine aN A (eV A A A (aE hr.an)) ?_
 refine aW A A A A A A (fun h8=>go ?_) (fun h8=>go ?_)
 have ae:=hn.an i O
 have ai:LtOk (n.gs.getD i an0).a (n.fst+(i:Int)):=ae.1
 have aj:LtOk (n.gs.getD i an0).b (n.fst+(i:Int)):=ae.2
 have b8:=(a2.lit ai).1
 have b9:=(a2.lit aj).1
 have ao:=ai
 have ap:=aj
 unfold LtOk at b8 b9 ao ap
 refine gZ (l:=[nB9 b6 o,rS9 148 3 o.sv o.ss sqC,rI9 3 X.v X.xs,bigE ps,eB9 b2,nB9 b1 n]) A 43 [0,1,2,3,4,5,6,7,8,9,10,11,12,13,14,15,16,17,18,19,20,21,22,23,24,25,26,27,28,29,30,31,32,33,34,35,36,37,38,39,40,41,42] (List.take 43 _) (List.drop 43 _) [[],[],[],[2],[],[3,4],[5],[6],[7],[1,8],[9],[],[11],[],[12,13],[14],[15],[16],[10,17],[],[],[20],[],[21,22],[23],[24],[25],[19,26],[27],[],[29],[],[30,31],[32],[33],[34],[28,35],[0,18,36],[37],[37,38],[37,38],[],[37,39,41]] [some 25,some 26,some 27,some 28,some 29,some 30,some 31,some 32,some 33,some 34,some 35,some 36,some 37,some 38,some 39,some 40,some 41,some 42,some 43,some 44,some 45,some 46,some 47,some 48,some 49,some 50,some 51,some 52,some 53,some 54,some 55,some 56,some 57,some 58,some 59,some 60,some 61,some 62,some 24,some 63,some 64,some 6,none] (fun i_ M K G=>match i_ with|0=>K=.agg #[jI o.ins,o.sv,o.av,o.ov]∧G=[]|1=>K=X.v∧G=[]|2=>K=.pointer (some ⟨b1,0+2,none⟩)∧G=[]|3=>K=n.av∧G=[]|4=>K=jI (i:Int)∧G=[]|5=>K=elP n.av ((i:Int).toNat*2)∧G=[]|6=>K=elP n.av ((i:Int).toNat*2+0)∧G=[]|7=>K=jI ((n.gs.getD i an0).a)∧G=[]|8=>K=jI (((n.gs.getD i an0).a) / 2)∧G=[]|9=>K=elP X.v ((((n.gs.getD i an0).a) / 2).toNat*1)∧G=[]|10=>K=jI (X.xs.getD ((((n.gs.getD i an0).a) / 2).toNat) 0)∧G=[]|11=>K=.pointer (some ⟨b1,0+2,none⟩)∧G=[]|12=>K=n.av∧G=[]|13=>K=jI (i:Int)∧G=[]|14=>K=elP n.av ((i:Int).toNat*2)∧G=[]|15=>K=elP n.av ((i:Int).toNat*2+0)∧G=[]|16=>K=jI ((n.gs.getD i an0).a)∧G=[]|17=>K=jI (((n.gs.getD i an0).a) % 2)∧G=[]|18=>K=jI (mpL X.xs ((n.gs.getD i an0).a))∧G=[]|19=>K=X.v∧G=[]|20=>K=.pointer (some ⟨b1,0+2,none⟩)∧G=[]|21=>K=n.av∧G=[]|22=>K=jI (i:Int)∧G=[]|23=>K=elP n.av ((i:Int).toNat*2)∧G=[]|24=>K=elP n.av ((i:Int).toNat*2+1)∧G=[]|25=>K=jI ((n.gs.getD i an0).b)∧G=[]|26=>K=jI (((n.gs.getD i an0).b) / 2)∧G=[]|27=>K=elP X.v ((((n.gs.getD i an0).b) / 2).toNat*1)∧G=[]|28=>K=jI (X.xs.getD ((((n.gs.getD i an0).b) / 2).toNat) 0)∧G=[]|29=>K=.pointer (some ⟨b1,0+2,none⟩)∧G=[]|30=>K=n.av∧G=[]|31=>K=jI (i:Int)∧G=[]|32=>K=elP n.av ((i:Int).toNat*2)∧G=[]|33=>K=elP n.av ((i:Int).toNat*2+1)∧G=[]|34=>K=jI ((n.gs.getD i an0).b)∧G=[]|35=>K=jI (((n.gs.getD i an0).b) % 2)∧G=[]|36=>K=jI (mpL X.xs ((n.gs.getD i an0).b))∧G=[]|37=>(fun u_ G=>∃(ps:List HP) (m:Nt) (x:Int),u_=.tuple #[m.agg,jI x]∧G=[rS9 148 3 m.sv m.ss sqC,bigE ps]∧(∀w,(bigE ps).holds w→NtRest w m)∧(m.sv.oneCell'=true∧m.av.oneCell'=true∧m.ov.oneCell'=true)∧Grew o m x) K G|38=>K=.tuple #[.agg #[jI (tInH (gV9 M 0)),(tSvH (gV9 M 0)),(tAvH (gV9 M 0)),(tOvH (gV9 M 0))],jI (tXH (gV9 M 0))]∧G=[]|39=>K=.agg #[jI (tInH (gV9 M 0)),(tSvH (gV9 M 0)),(tAvH (gV9 M 0)),(tOvH (gV9 M 0))]∧G=[]|40=>K=jI (tXH (gV9 M 0))∧G=[]|41=>IsBox #[jI 0,.slice none 0 0,.slice none 0 0,.slice none 0 0] 125 K G|42=>G=[boxE (blkOf (gV9 M 2)) #[jI (tInH (gV9 M 0)),(tSvH (gV9 M 0)),(tAvH (gV9 M 0)),(tOvH (gV9 M 0))] 125]|_=>True) [[],[],[],[2],[],[3,4],[5],[6],[7],[1,8],[9],[],[11],[],[12,13],[14],[15],[16],[10,17],[],[],[20],[],[21,22],[23],[24],[25],[19,26],[27],[],[29],[],[30,31],[32],[33],[34],[28,35],[0,18,36],[37],[37,38],[37,38],[],[37,39]] [none,none,none,none,none,none,none,none,none,none,none,none,none,none,none,none,none,none,none,none,none,none,none,none,none,none,none,none,none,none,none,none,none,none,none,none,none,none,none,none,none,none,some 41] [] [0,1,2,3,4,5,6,7,8,9,10,11,12,13,14,15,16,17,18,19,20,21,22,23,24,25,26,27,28,29,30,31,32,33,34,35,36,37,38,39,40,42] 44 (take_append_drop 43 _).symm F F F A A ?_ ?_
 refine⟨?_,?_,?_,?_,?_,?_,?_,?_,?_,?_,?_,?_,?_,?_,?_,?_,?_,?_,?_,?_,?_,?_,?_,?_,?_,?_,?_,?_,?_,?_,?_,?_,?_,?_,?_,?_,?_,?_,?_,?_,?_,?_,?_,trivial⟩
 intro vf E B e
 refine cD [] [] A (bC (aD [3] A) z9 ?_)
 exact aK (aP (cs:=[jI o.ins,o.sv,o.av,o.ov]) A A A A A (aM 0 A 0 A))
 intro vf E B e
 refine cD [] [] A (aZ (aD [4] A) ?_)
 exact aK (aU A)
 intro vf E B e
 refine cD [] [] A (aZ (aD [1] A) ?_)
 exact aK (fY 2 A A A)
 intro vf E B e
 have e2:=e 2 V
 refine cD [2] [2] A (bC (aX 27 e2.1 (aA _)) z9 ?_)
 exact aK (bJ A A A (bA 5 A A))
 intro vf E B e
 refine cD [] [] A (aZ (aD [5] A) ?_)
 exact aK (aU A)
 intro vf E B e
 have e3:=e 3 V
 have e4:=e 4 V
 refine cD [3,4] [3,4] A (bC (aX 28 e3.1 (aX 29 e4.1 (aA _))) z9 ?_)
 exact aK (cV 2 A A A A (aE hr.an))
 intro vf E B e
 have e5:=e 5 V
 refine cD [5] [5] A (bC (aX 30 e5.1 (aA _)) z9 ?_)
 exact aK (bR (k0:=0) A A A (aE hr.an) O)
 intro vf E B e
 have e6:=e 6 V
 refine cD [6] [6] A (bC (aX 31 e6.1 (aA _)) z9 ?_)
 exact aK (aL (u:=jI ((n.gs.getD i an0).a)) A A A (aE hr.an) ((dC anC 2 (fun _=>A) n.gs an0 (show i<_ by omega) V).trans A))
 intro vf E B e
 have e7:=e 7 V
 refine cD [7] [7] A (aZ (aX 32 e7.1 (aA _)) ?_)
 exact aK (gD A A A AH)
 intro vf E B e
 have e1:=e 1 V
 have e8:=e 8 V
 refine cD [1,8] [1,8] A (bC (aX 26 e1.1 (aX 33 e8.1 (aA _))) z9 ?_)
 exact aK (cV 1 A A A A (aB 2 A))
 intro vf E B e
 have e9:=e 9 V
 refine cD [9] [9] A (bC (aX 34 e9.1 (aA _)) z9 ?_)
 exact aK (lP A A A (aB 2 A))
 intro vf E B e
 refine cD [] [] A (aZ (aD [1] A) ?_)
 exact aK (fY 2 A A A)
 intro vf E B e
 have ba:=e 11 V
 refine cD [11] [11] A (bC (aX 36 ba.1 (aA _)) z9 ?_)
 exact aK (bJ A A A (bA 5 A A))
 intro vf E B e
 refine cD [] [] A (aZ (aD [5] A) ?_)
 exact aK (aU A)
 intro vf E B e
 have bb:=e 12 V
 have bc:=e 13 V
 refine cD [12,13] [12,13] A (bC (aX 37 bb.1 (aX 38 bc.1 (aA _))) z9 ?_)
 exact aK (cV 2 A A A A (aE hr.an))
 intro vf E B e
 have bd:=e 14 V
 refine cD [14] [14] A (bC (aX 39 bd.1 (aA _)) z9 ?_)
 exact aK (bR (k0:=0) A A A (aE hr.an) O)
 intro vf E B e
 have be:=e 15 V
 refine cD [15] [15] A (bC (aX 40 be.1 (aA _)) z9 ?_)
 exact aK (aL (u:=jI ((n.gs.getD i an0).a)) A A A (aE hr.an) ((dC anC 2 (fun _=>A) n.gs an0 (show i<_ by omega) V).trans A))
 intro vf E B e
 have bf:=e 16 V
 refine cD [16] [16] A (aZ (aX 41 bf.1 (aA _)) ?_)
 exact aK (jU A V A A (r:=((n.gs.getD i an0).a) % 2) (Bit.and_one _ O O))
 intro vf E B e
 have bg:=e 10 V
 have bh:=e 17 V
 refine cD [10,17] [10,17] A (aZ (aX 35 bg.1 (aX 42 bh.1 (aA _))) ?_)
 exact aK (jU A V A A (r:=mpL X.xs ((n.gs.getD i an0).a)) (Bt O O))
 intro vf E B e
 refine cD [] [] A (aZ (aD [4] A) ?_)
 exact aK (aU A)
 intro vf E B e
 refine cD [] [] A (aZ (aD [1] A) ?_)
 exact aK (fY 2 A A A)
 intro vf E B e
 have bi:=e 20 V
 refine cD [20] [20] A (bC (aX 45 bi.1 (aA _)) z9 ?_)
 exact aK (bJ A A A (bA 5 A A))
 intro vf E B e
 refine cD [] [] A (aZ (aD [5] A) ?_)
 exact aK (aU A)
 intro vf E B e
 have bj:=e 21 V
 have bk:=e 22 V
 refine cD [21,22] [21,22] A (bC (aX 46 bj.1 (aX 47 bk.1 (aA _))) z9 ?_)
 exact aK (cV 2 A A A A (aE hr.an))
 intro vf E B e
 have bl:=e 23 V
 refine cD [23] [23] A (bC (aX 48 bl.1 (aA _)) z9 ?_)
 exact aK (bR (k0:=1) A A A (aE hr.an) O)
 intro vf E B e
 have bm:=e 24 V
 refine cD [24] [24] A (bC (aX 49 bm.1 (aA _)) z9 ?_)
 exact aK (aL (u:=jI ((n.gs.getD i an0).b)) A A A (aE hr.an) ((dC anC 2 (fun _=>A) n.gs an0 (show i<_ by omega) V).trans A))
 intro vf E B e
 have bn:=e 25 V
 refine cD [25] [25] A (aZ (aX 50 bn.1 (aA _)) ?_)
 exact aK (gD A A A AH)
 intro vf E B e
 have bo:=e 19 V
 have bp:=e 26 V
 refine cD [19,26] [19,26] A (bC (aX 44 bo.1 (aX 51 bp.1 (aA _))) z9 ?_)
 exact aK (cV 1 A A A A (aB 2 A))
 intro vf E B e
 have bq:=e 27 V
 refine cD [27] [27] A (bC (aX 52 bq.1 (aA _)) z9 ?_)
 exact aK (lP A A A (aB 2 A))
 intro vf E B e
 refine cD [] [] A (aZ (aD [1] A) ?_)
 exact aK (fY 2 A A A)
 intro vf E B e
 have br:=e 29 V
 refine cD [29] [29] A (bC (aX 54 br.1 (aA _)) z9 ?_)
 exact aK (bJ A A A (bA 5 A A))
 intro vf E B e
 refine cD [] [] A (aZ (aD [5] A) ?_)
 exact aK (aU A)
 intro vf E B e
 have bs:=e 30 V
 have bt:=e 31 V
 refine cD [30,31] [30,31] A (bC (aX 55 bs.1 (aX 56 bt.1 (aA _))) z9 ?_)
 exact aK (cV 2 A A A A (aE hr.an))
 intro vf E B e
 have bu:=e 32 V
 refine cD [32] [32] A (bC (aX 57 bu.1 (aA _)) z9 ?_)
 exact aK (bR (k0:=1) A A A (aE hr.an) O)
 intro vf E B e
 have bv:=e 33 V
 refine cD [33] [33] A (bC (aX 58 bv.1 (aA _)) z9 ?_)
 exact aK (aL (u:=jI ((n.gs.getD i an0).b)) A A A (aE hr.an) ((dC anC 2 (fun _=>A) n.gs an0 (show i<_ by omega) V).trans A))
 intro vf E B e
 have bw:=e 34 V
 refine cD [34] [34] A (aZ (aX 59 bw.1 (aA _)) ?_)
 exact aK (jU A V A A (r:=((n.gs.getD i an0).b) % 2) (Bit.and_one _ O O))
 intro vf E B e
 have bx:=e 28 V
 have bz:=e 35 V
 refine cD [28,35] [28,35] A (aZ (aX 53 bx.1 (aX 60 bz.1 (aA _))) ?_)
 exact aK (jU A V A A (r:=mpL X.xs ((n.gs.getD i an0).b)) (Bt O O))
 intro vf E B e
 have e0:=e 0 V
 have c0:=e 18 V
 have c1:=e 36 V
 refine cD [0,18,36] [0,18,36] A (bC (aX 25 e0.1 (aX 43 c0.1 (aX 61 c1.1 (aA _)))) z9 ?_)
 exact aF A A (fun w hm=>Bs o (mpL X.xs ((n.gs.getD i an0).a)) (mpL X.xs ((n.gs.getD i an0).b)) w ((a9 w (hm.holds _ (cT (i:=3) A))).rds (aB 1 A w hm)) ho (a2.lit ai).2 (a2.lit aj).2 O)
 intro vf E B e
 obtain⟨v9,D⟩:=dU (vf 37)
 obtain⟨aa,J⟩:=dU (E 37)
 have U:=e 37 V
 rw[D,J] at U
 obtain⟨qs,Z,x,rfl,rfl,a8,⟨a3,a4,a5⟩,Y⟩:=U
 refine cD [37] [37] A (bQ (aX 62 D (aA _)) (by simp only[J,D,fS]<;>rfl) ?_)
 exact dM (aK (aU A)) (fun _ _ h=>⟨h.1.trans (by show _=(.tuple #[.agg #[jI (tInH (vf 37)),(tSvH (vf 37)),(tAvH (vf 37)),(tOvH (vf 37))],jI (tXH (vf 37))]:Value);first|(rw[D];done)|(rw[D];rfl)),h.2⟩)
 intro vf E B e
 obtain⟨v9,D⟩:=dU (vf 37)
 obtain⟨aa,J⟩:=dU (E 37)
 have U:=e 37 V
 rw[D,J] at U
 obtain⟨qs,Z,x,rfl,rfl,a8,⟨a3,a4,a5⟩,Y⟩:=U
 have a6:(vf 38)=.tuple #[.agg #[jI (tInH (vf 37)),(tSvH (vf 37)),(tAvH (vf 37)),(tOvH (vf 37))],jI (tXH (vf 37))]∧(E 38)=[]:=e 38 V
 rw[D] at a6
 refine cD [37,38] [37,38] A (bQ (aX 24 a6.1 (aA _)) (by simp only[J,D,a6.2,fS]<;>rfl) ?_)
 exact dM (aK (aU A)) (fun _ _ h=>⟨h.1.trans (by show _=(.agg #[jI (tInH (vf 37)),(tSvH (vf 37)),(tAvH (vf 37)),(tOvH (vf 37))]:Value);first|(rw[D];done)|(rw[D];rfl)),h.2⟩)
 intro vf E B e
 obtain⟨v9,D⟩:=dU (vf 37)
 obtain⟨aa,J⟩:=dU (E 37)
 have U:=e 37 V
 rw[D,J] at U
 obtain⟨qs,Z,x,rfl,rfl,a8,⟨a3,a4,a5⟩,Y⟩:=U
 have a6:(vf 38)=.tuple #[.agg #[jI (tInH (vf 37)),(tSvH (vf 37)),(tAvH (vf 37)),(tOvH (vf 37))],jI (tXH (vf 37))]∧(E 38)=[]:=e 38 V
 rw[D] at a6
 refine cD [37,38] [37,38] A (bQ (aX 24 a6.1 (aA _)) (by simp only[J,D,a6.2,fS]<;>rfl) ?_)
 exact dM (aK (aU A)) (fun _ _ h=>⟨h.1.trans (by show _=(jI (tXH (vf 37)):Value);first|(rw[D];done)|(rw[D];rfl)),h.2⟩)
 intro vf E B e
 refine cD [] [] A (bC (aA _) z9 ?_)
 exact bY (z:=.agg #[jI 0,.slice none 0 0,.slice none 0 0,.slice none 0 0]) A A
 intro vf E B e
 obtain⟨v9,D⟩:=dU (vf 37)
 obtain⟨aa,J⟩:=dU (E 37)
 have U:=e 37 V
 rw[D,J] at U
 obtain⟨qs,Z,x,rfl,rfl,a8,⟨a3,a4,a5⟩,Y⟩:=U
 have ak:(vf 39)=.agg #[jI (tInH (vf 37)),(tSvH (vf 37)),(tAvH (vf 37)),(tOvH (vf 37))]∧(E 39)=[]:=e 39 V
 rw[D] at ak
 obtain⟨c2,a0,af⟩:=e 41 V
 refine Or.inl ⟨A,?_⟩
 show RunM _ _ _ (E 41) (([37,39]:List Nat).flatMap E++_) (envOf3 _ vf [37,39,41]++_) _ _
 rw[af]
 exact eJ (aX 6 a0 (aX 63 ak.1 (aA _))) (by simp only[J,D,ak.2,fS]<;>rfl) (jD (hO (us:=[jI Z.ins,Z.sv,Z.av,Z.ov]) (off:=0) 0 A A A A A A (aC A (aC a3 (aC a4 (aC a5 bH)))) A A) (fun K G h=>by show G=[boxE (blkOf (vf 41)) #[jI (tInH (vf 37)),(tSvH (vf 37)),(tAvH (vf 37)),(tOvH (vf 37))] 125];rw[D,a0];exact h))
 intro vf E B e
 obtain⟨v9,D⟩:=dU (vf 37)
 obtain⟨aa,J⟩:=dU (E 37)
 have U:=e 37 V
 rw[D,J] at U
 obtain⟨qs,Z,x,rfl,rfl,a8,⟨a3,a4,a5⟩,Y⟩:=U
 have aq:(vf 40)=jI (tXH (vf 37))∧(E 40)=[]:=e 40 V
 rw[D] at aq
 obtain⟨c2,a0,af⟩:=e 41 V
 have ar:(E 42)=[boxE (blkOf (vf 41)) #[jI (tInH (vf 37)),(tSvH (vf 37)),(tAvH (vf 37)),(tOvH (vf 37))] 125]:=e 42 V
 rw[D,a0] at ar
 have au:=ar
 have q0:=e 0 V
 have q1:=e 1 V
 have q2:=e 2 V
 have q3:=e 3 V
 have q4:=e 4 V
 have q5:=e 5 V
 have q6:=e 6 V
 have q7:=e 7 V
 have q8:=e 8 V
 have q9:=e 9 V
 have c3:=e 10 V
 have c4:=e 11 V
 have c5:=e 12 V
 have c6:=e 13 V
 have c7:=e 14 V
 have c8:=e 15 V
 have c9:=e 16 V
 have ca:=e 17 V
 have cb:=e 18 V
 have cc:=e 19 V
 have cd:=e 20 V
 have ce:=e 21 V
 have cf:=e 22 V
 have cg:=e 23 V
 have ch:=e 24 V
 have ci:=e 25 V
 have cj:=e 26 V
 have ck:=e 27 V
 have cl:=e 28 V
 have cm:=e 29 V
 have cn:=e 30 V
 have co:=e 31 V
 have cp:=e 32 V
 have cq:=e 33 V
 have cr:=e 34 V
 have ct:=e 35 V
 have cu:=e 36 V
 have cv:=e 38 V
 have cw:=e 39 V
 have cx:=e 40 V
 refine cL (bE [5,4,3,2,1,0] _ (aX 6 a0 (sk 10 A (sk 21 A (aX 64 aq.1 (aA _))))) A) (by simp only[J,D,au,q0.2,q1.2,q2.2,q3.2,q4.2,q5.2,q6.2,q7.2,q8.2,q9.2,c3.2,c4.2,c5.2,c6.2,c7.2,c8.2,c9.2,ca.2,cb.2,cc.2,cd.2,ce.2,cf.2,cg.2,ch.2,ci.2,cj.2,ck.2,cl.2,cm.2,cn.2,co.2,cp.2,cq.2,cr.2,ct.2,cu.2,cv.2,cw.2,cx.2,fS]<;>rfl) ?_
 simp only[drop_succ_cons,drop_zero]
 refine go ?_
 refine cA (cs':=#[jI Z.ins,Z.sv,Z.av,Z.ov]) (i:=3) (off:=0) (us:=[jI Z.ins,Z.sv,Z.av,Z.ov]) A A A A A A A (aC A (aC a3 (aC a4 (aC a5 bH)))) A A A (go ?_)
 refine cH A (aH (z:=jI 0) (s:=1) (cs:=(mI [x])) A z8 A V A F A) fun dj=>?_
 refine bT (i:=6) (z:=jI 0) (bytes:=8) A A A A z8 F A A A A (aB 0 A) (bI _) AD (bK X.xs ([x])) (cB X.xs ([x])) (fun _=>A) fun cy=>go ?_
 have aw:MapOk (X.xs++[x]) (n.fst+((i+1:Nat):Int)) Z.cnt:=by have h9:=(a2.up Y.cnt).app (x:=x) Y.lit;rwa [show n.fst+(i:Int)+1=n.fst+((i+1:Nat):Int) by omega] at h9
 have dk:=Y.l1
 refine bN 10 [9,8,2,6,1,4] A A V ?_
 exact dH (i+1) Z (CRow.mk cy (X.xs++([x]))) qs ⟨O,Y.ok,a7.trans Y.sk,O,aw,a8,⟨a3,a4,a5⟩⟩ O (bV A) (cZ A)
 refine kQ 6 [5,4,0,3,2,1] A A V ?_
 refine Kp 3 A ?_
 refine cR (R:=(fun u_ G=>∃(ps:List HP) (m:Nt),u_=m.agg∧G=bigE ps∧(∀w,(bigE ps).holds w→RdsNt w m)∧(m.sv.oneCell'=true∧m.av.oneCell'=true∧m.ov.oneCell'=true)∧NtOk m∧Skel n m∧m.gs.length≤o.gs.length)) 0 A A A A A (fun l' w hm=>wA n o X.xs X.v ps _ _ w hm hr hn ho a7 (by rwa [show n.fst+(i:Int)=n.cnt by omega] at a2) a9 ⟨b4,b5,b7⟩) fun dl dm cz=>?_
 obtain⟨rs,m3,rfl,rfl,d0,⟨ax,ay,az⟩,d1,d2,dn⟩:=cz
 refine dO (l':=[bigE rs,nB9 b6 o,eB9 b2,nB9 b1 n]) A ?_
 refine cA (cs':=#[jI m3.ins,m3.sv,m3.av,m3.ov]) (i:=2) (off:=0) (us:=[jI m3.ins,m3.sv,m3.av,m3.ov]) A A A A A A A (aC A (aC ax (aC ay (aC az bH)))) A A A (go ?_)
 exact eQ (rs:=[.cell 2 125]) (vs:=[.agg #[jI m3.ins,m3.sv,m3.av,m3.ov]]) (post:=[bigE rs]) A ⟨⟨b2,0,[jI m3.ins,m3.sv,m3.av,m3.ov],A,A,F,F,aM 2 A 0 A⟩,trivial⟩ A (eA [0] A) ⟨_,m3,A,A,d0,⟨ax,ay,az⟩,d1,d2,O⟩
theorem wS:∀(N:Nat) (ns:List Int),ns.Nodup→(∀x∈ns,0≤x∧x<N)→ns.length≤N
  | 0,[],_,_=>Nat.le_refl _
  | 0,x::t,_,hr=>by have:=hr x mem_cons_self;omega
  | N+1,ns,hn,hr=>by
    have h1:(ns.erase (N:Int)).Nodup:=hn.erase _
    have h2:=wS N (ns.erase (N:Int)) h1 (fun x hx=>by
      have hm:=(hn.mem_erase_iff).1 hx
      have:=hr x hm.2
      have hne:=hm.1
      omega)
    by_cases c:(N:Int)∈ns
    · rw [List.length_erase_of_mem c] at h2
      omega
    · rw[List.erase_of_not_mem c] at h2;omega
structure Srch (c:Nat) (back queue:List Int):Prop where
  len:back.length=c
  rng:∀x∈queue,0≤x∧x<c
  nodup:queue.Nodup
  set:∀x∈queue,back.getD x.toNat 0≠-2
  prec:∀j,j<c→back.getD j 0 = -2∨((j:Int)∈queue∧(back.getD j 0 = -1∨(back.getD j 0∈queue∧queue.idxOf (back.getD j 0)<queue.idxOf (j:Int))))
theorem oU {α:Type}{d x:α}{n i:Nat}(h:i<n):(replicate n x).getD i d=x:=by
  rw[getD_eq_getElem?_getD,List.getElem?_replicate,if_pos h];rfl
theorem Srch.start (c:Nat):Srch c (replicate c (-2)) []:=⟨AI,fun x e=>(by cases e),AI,fun x e=>(by cases e),fun j h=>.inl (oU h)⟩
theorem Srch.qlen {c:Nat}{B e:List Int}(h:Srch c B e):e.length≤c:=wS c e h.nodup h.rng
theorem Srch.at {c:Nat}{B e:List Int}(h:Srch c B e) {q:Nat}(D:q<e.length):0≤e.getD q 0∧e.getD q 0<c:=h.rng _ (dJ D)
theorem Srch.put {c:Nat}{back queue:List Int}(h:Srch c back queue) {y x:Int}(hy:0≤y∧y<c) (hb:back.getD y.toNat 0 = -2) (hx:x = -1∨x∈queue):Srch c (back.set y.toNat x) (queue++[y]):=by
  have hl:=h.len
  have hn:¬y∈queue:=fun hm=>h.set y hm hb
  have hx2:x≠-2:=by
    rcases hx with e|e
    · omega
    · have:=h.rng x e;omega
  have hget:∀j,j<c→(back.set y.toNat x).getD j 0=if y.toNat=j then x else back.getD j 0:=fun j hj=>by
    by_cases e:y.toNat=j
    · subst e;rw[if_pos rfl,fQ (by omega)]
    · rw[if_neg e,getD_eq_getElem?_getD,List.getElem?_set_ne e,←getD_eq_getElem?_getD]
  refine⟨by rw[length_set];exact hl,fun z hz=>?_,?_,fun z hz=>?_,fun j hj=>?_⟩
  · rcases List.mem_append.1 hz with hz | hz
    · exact h.rng z hz
    · rw[mem_singleton] at hz;subst hz;exact hy
  · rw [List.nodup_append]
    refine⟨h.nodup,by simp,fun a ha b hb2 e=>?_⟩
    rw[mem_singleton] at hb2
    subst hb2;subst e;exact hn ha
  · have hz':0≤z∧z<c:=by
      rcases List.mem_append.1 hz with hz|hz
      · exact h.rng z hz
      · rw[mem_singleton] at hz;subst hz;exact hy
    rw[hget _ (by omega)]
    split
    · exact hx2
    · rename_i hne
      rcases List.mem_append.1 hz with hz|hz
      · exact h.set z hz
      · rw[mem_singleton] at hz;subst hz;exact absurd rfl hne
  · rw [hget j hj]
    by_cases e:y.toNat=j
    · rw [if_pos e]
      have ej:(j:Int)=y:=by omega
      refine .inr ⟨by rw[ej];exact List.mem_append_right _ (List.mem_singleton.2 rfl),?_⟩
      rcases hx with e1|e1
      · exact .inl e1
      · refine .inr ⟨List.mem_append_left _ e1, ?_⟩
        rw[ej,List.idxOf_append,if_pos e1,List.idxOf_append,if_neg hn]
        have:=List.idxOf_lt_length_of_mem e1
        omega
    · rw [if_neg e]
      rcases h.prec j hj with e1|⟨hm,e1⟩
      · exact .inl e1
      · refine .inr ⟨List.mem_append_left _ hm, ?_⟩
        rcases e1 with e1|⟨hm2,e1⟩
        · exact .inl e1
        · refine .inr ⟨List.mem_append_left _ hm2, ?_⟩
          rw[List.idxOf_append,if_pos hm2,List.idxOf_append,if_pos hm];exact e1
structure BackOk (c:Nat) (back:List Int):Prop where
  len:back.length=c
  rng:∀j,j<c→-2≤back.getD j 0∧back.getD j 0<c
  rank:∃r:Nat→Nat,∀j,j<c→0≤back.getD j 0→r (back.getD j 0).toNat<r j
theorem Srch.back {c:Nat}{back queue:List Int}(h:Srch c back queue):BackOk c back:=by
  refine⟨h.len,fun j hj=>?_,fun j=>queue.idxOf (j:Int),fun j hj h0=>?_⟩
  · rcases h.prec j hj with e | ⟨-, e | ⟨e, -⟩⟩
    · omega
    · omega
    · have:=h.rng _ e;omega
  · rcases h.prec j hj with e | ⟨-, e | ⟨-, e⟩⟩
    · omega
    · omega
    · show queue.idxOf (((back.getD j 0).toNat : Nat) : Int) < _
      rw[Int.toNat_of_nonneg h0];exact e
def NxOk (c:Nat) (xs:List Int):Prop:=∀x∈xs,0≤x∧x<c
theorem NxOk.nil (c:Nat):NxOk c []:=fun x e=>by cases e
theorem NxOk.app {c:Nat}{xs:List Int}(h:NxOk c xs) {x:Int}(B:0≤x∧x<c):NxOk c (xs++[x]):=fun y e=>by
  rcases List.mem_append.1 e with e|e
  · exact h y e
  · rw[mem_singleton] at e;subst e;exact B
theorem NxOk.at {c:Nat}{xs:List Int}(h:NxOk c xs) {k:Nat}(e:k<xs.length):0≤xs.getD k 0∧xs.getD k 0<c:=h _ (dJ e)
def AbOk (c:Int) (ab:List Int):Prop:=(ab.length:Int)=c∧∀k,k<ab.length→-1≤ab.getD k 0∧ab.getD k 0<c
theorem AbOk.start {c:Int}(h:1≤c):AbOk c (replicate c.toNat 0):=⟨by rw[length_replicate];omega,fun k e=>by rw[length_replicate] at e;rw[oU e];omega⟩
theorem AbOk.set {c:Int}{D:List Int}(h:AbOk c D) {k:Nat}{x:Int}(E : -1≤x∧x<c):AbOk c (D.set k x):=by
  refine⟨by rw[length_set];exact h.1,fun j B=>?_⟩
  rw[length_set] at B
  by_cases e:k=j
  · subst e;rw[fQ B];exact E
  · rw[getD_eq_getElem?_getD,List.getElem?_set_ne e,←getD_eq_getElem?_getD];exact h.2 j B
structure LbOk (n:Nt) (i:Nat) (ls:List Int):Prop where
  len:(ls.length:Int)=n.cnt
  at_:∀k,k<ls.length→0≤ls.getD k 0∧ls.getD k 0≤k
theorem LbOk.start {n:Nt}(h:0≤n.cnt):LbOk n 0 (replicate n.cnt.toNat 0):=⟨by rw[length_replicate];omega,fun k e=>by rw[length_replicate] at e;rw[oU e];omega⟩
theorem LbOk.set {n:Nt}{i j:Nat}{D:List Int}(h:LbOk n i D) {k:Nat}{x:Int}(E:0≤x∧x≤k):LbOk n j (D.set k x):=by
  refine⟨by rw[length_set];exact h.len,fun m B=>?_⟩
  rw[length_set] at B
  by_cases e:k=m
  · subst e;rw[fQ B];exact E
  · rw[getD_eq_getElem?_getD,List.getElem?_set_ne e,←getD_eq_getElem?_getD];exact h.at_ m B
open Go.RowKit
theorem pU {xs:List Int}{k x:Int}(h:∀y∈xs,0≤y∧y<k) (B:0≤x∧x<k):∀y∈xs++[x],0≤y∧y<k:=fun y e=>by
  rcases List.mem_append.1 e with e|e
  · exact h y e
  · rw[mem_singleton] at e;subst e;exact B
theorem uM {k:Int}:∀y∈([]:List Int),0≤y∧y<k:=fun y e=>by cases e
theorem Fb (n:Nt) (k:Int) (w:World) (K:RdsNt w n) (E:NtOk n) (hk:0≤k∧k<n.cnt) :
   Calls Tryz.prog 158 #[.agg #[.int .i64 n.ins,n.sv,n.av,n.ov],.int .i64 k] w (Ret w (fun u_ h=>∃xs:List Int,h=[rI9 3 u_ xs]∧xs.length≤2∧∀x∈xs,0≤x∧x<k)):=by
 have a4:=E.i0
 have a5:=E.i1
 have a6:=E.s1
 have a7:=E.a1
 have a8:=E.o1
 have a2:n.cnt=1+n.ins+n.ss.length+n.gs.length:=rfl
 have a3:n.fst=1+n.ins+n.ss.length:=rfl
 refine aY (N:=40) (args:=[.agg #[jI n.ins,n.sv,n.av,n.ov],jI k]) Tryz.func158 A A (dW ?_)
 refine cU A (cE A A) ?_
 intro b1
 refine bG 1 A (dW ?_)
 refine cH A (bU (s:=1) A z8 A) ?_
 intro g2
 refine bG 1 A (aG (aG (cN 1 A (aN A (aP (cs:=[jI n.ins,n.sv,n.av,n.ov]) A A A A A (aM 1 A 0 A)) ?_))))
 refine cM A (aF A A (fun w M=>aI (dZ n w (K.below M.bel) E))) (aW A A A A A A (fun h3=>?_) (fun h3=>?_))
 refine dL (aR A (cF 2 A ?_))
 refine cW (cK ?_)
 exact bM (post:=[rowE 3 1 (.slice (some ⟨g2,0,none⟩) 0 0) 0 ([])]) A A (eA [0] A) ⟨[],A,AI,uM⟩
 refine dL (aV A (eC (aG ?_)))
 have U:=E.an (k-n.fst).toNat O
 unfold LtOk at U
 refine eI A 9 [0,1,2,3,4,5,6,7,8] (List.take 9 _) (List.drop 9 _) [[],[0],[],[],[3],[2,4],[1,5],[6],[]] [13,14,15,16,17,18,19,20,6] (fun i_ a9 B h=>match i_ with|0=>B=.pointer (some ⟨b1,0+2,none⟩)∧h=[]|1=>B=n.av∧h=[]|2=>B=jI k∧h=[]|3=>B=.agg #[jI n.ins,n.sv,n.av,n.ov]∧h=[]|4=>B=jI n.fst∧h=[]|5=>B=jI (k-n.fst)∧h=[]|6=>B=elP n.av ((k-n.fst).toNat*2)∧h=[]|7=>B=.agg #[jI ((n.gs.getD ((k-n.fst).toNat) an0).a),jI ((n.gs.getD ((k-n.fst).toNat) an0).b)]∧h=[]|8=>IsBox #[jI 0,jI 0] 145 B h|_=>True) (take_append_drop 9 _).symm F F A A ?_ ?_
 refine⟨?_,?_,?_,?_,?_,?_,?_,?_,?_,trivial⟩
 intro vf D e
 exact fG A (aD [2] A) (aK (fY 2 A A A))
 intro vf D e
 have e0:=e 0 V
 exact eH A (aX 13 e0.1 (aA _)) (aK (bJ A A A (bA 1 A A)))
 intro vf D e
 exact fG A (aD [1] A) (aK (aU A))
 intro vf D e
 exact eH A (aD [2] A) (aK (aP (cs:=[jI n.ins,n.sv,n.av,n.ov]) A A A A A (aM 1 A 0 A)))
 intro vf D e
 have e3:=e 3 V
 exact eH A (aX 16 e3.1 (aA _)) (aF A A (fun w M=>aI (dZ n w (K.below M.bel) E)))
 intro vf D e
 have e2:=e 2 V
 have e4:=e 4 V
 exact fG A (aX 15 e2.1 (aX 17 e4.1 (aA _))) (aK (nK A A A))
 intro vf D e
 have e1:=e 1 V
 have e5:=e 5 V
 exact eH A (aX 14 e1.1 (aX 18 e5.1 (aA _))) (aK (cV 2 A A A A (aE K.an)))
 intro vf D e
 have e6:=e 6 V
 exact eH A (aX 19 e6.1 (aA _)) (aK (cO (us:=[jI ((n.gs.getD ((k-n.fst).toNat) an0).a),jI ((n.gs.getD ((k-n.fst).toNat) an0).b)]) A A A A (aE K.an) O A (dQ anC 2 (fun _=>A) n.gs an0 (show(k-n.fst).toNat<_ by omega) A)))
 intro vf D e
 exact eH A (aA _) (bY (z:=.agg #[jI 0,jI 0]) A A)
 intro vf D e
 have e7:=e 7 V
 obtain⟨b4,G,X⟩:=e 8 V
 have q0:=e 0 V
 have q1:=e 1 V
 have q2:=e 2 V
 have q3:=e 3 V
 have q4:=e 4 V
 have q5:=e 5 V
 have q6:=e 6 V
 have q7:=e 7 V
 refine cL (bE [5,4,2,1,0] _ (aX 6 G (sk 11 A (aX 20 e7.1 (aA _)))) A) (by simp only[X,G,q0.2,q1.2,q2.2,q3.2,q4.2,q5.2,q6.2,q7.2,fS]<;>rfl) ?_
 simp only[drop_succ_cons,drop_zero]
 refine cA (cs':=#[jI ((n.gs.getD ((k-n.fst).toNat) an0).a),jI ((n.gs.getD ((k-n.fst).toNat) an0).b)]) (i:=0) (off:=0) (us:=[jI ((n.gs.getD ((k-n.fst).toNat) an0).a),jI ((n.gs.getD ((k-n.fst).toNat) an0).b)]) A A A A A A A (aC A (aC A bH)) A A A (dL (kE (aN A (fY 0 A A A) (aN A (bJ A A A (bA 0 A A)) ?_))))
 refine fJ A A A A A A (fun h5=>?_) (fun h5=>?_)
 refine dL (aR A (cN 1 A (aN A (fY 0 A A A) (aN A (bJ A A A (bA 0 A A)) ?_))))
 refine aN A (gD A A A AH) ?_
 refine cH A (aH (z:=jI 0) (s:=1) (cs:=(mI [((n.gs.getD ((k-n.fst).toNat) an0).a) / 2])) A z8 A V A F A) ?_
 intro g6
 refine bT (i:=2) (z:=jI 0) (bytes:=8) (n':=([((n.gs.getD ((k-n.fst).toNat) an0).a) / 2]).length) (xs':=(([((n.gs.getD ((k-n.fst).toNat) an0).a) / 2]).map (Value.int .i64))) A A A A z8 F A A A A (aB 0 A) (bI _) AD (Nat.zero_add _) (nil_append _) (fun _=>A) ?_
 intro v7
 refine bG 1 A (kE (aN A (fY 1 A A A) (aN A (bJ A A A (bA 1 A A)) ?_)))
 refine fJ A A A A A A (fun h8=>?_) (fun h8=>?_)
 refine dL (aR A (cN 1 A (aN A (fY 1 A A A) (aN A (bJ A A A (bA 1 A A)) ?_))))
 refine aN A (gD A A A AH) ?_
 refine cH A (aH (z:=jI 0) (s:=1) (cs:=(mI [((n.gs.getD ((k-n.fst).toNat) an0).b) / 2])) A z8 A V A F A) ?_
 intro g9
 refine bT (i:=3) (z:=jI 0) (bytes:=8) A A A A z8 F A A A A (aB 0 A) (bI _) AD (bK ([((n.gs.getD ((k-n.fst).toNat) an0).a) / 2]) ([((n.gs.getD ((k-n.fst).toNat) an0).b) / 2])) (cB ([((n.gs.getD ((k-n.fst).toNat) an0).a) / 2]) ([((n.gs.getD ((k-n.fst).toNat) an0).b) / 2])) (fun _=>A) ?_
 intro Y
 refine bG 1 A (cF 2 A ?_)
 exact cW (bM (post:=[rowE 3 1 Y ((([((n.gs.getD ((k-n.fst).toNat) an0).a) / 2])++([((n.gs.getD ((k-n.fst).toNat) an0).b) / 2])).length) ((([((n.gs.getD ((k-n.fst).toNat) an0).a) / 2])++([((n.gs.getD ((k-n.fst).toNat) an0).b) / 2])).map (Value.int .i64))]) A A (eA [3] A) ⟨([((n.gs.getD ((k-n.fst).toNat) an0).a) / 2])++([((n.gs.getD ((k-n.fst).toNat) an0).b) / 2]),A,AI,(by have J:=pU (pU (k:=k) uM (x:=((n.gs.getD ((k-n.fst).toNat) an0).a) / 2) O) (x:=((n.gs.getD ((k-n.fst).toNat) an0).b) / 2) O;simpa using J)⟩)
 refine dL (aV A (eC (cF 2 A ?_)))
 exact cW (bM (post:=[rowE 3 1 v7 (([((n.gs.getD ((k-n.fst).toNat) an0).a) / 2]).length) (([((n.gs.getD ((k-n.fst).toNat) an0).a) / 2]).map (Value.int .i64))]) A A (eA [2] A) ⟨[((n.gs.getD ((k-n.fst).toNat) an0).a) / 2],A,AI,(by have J:=pU (k:=k) uM (x:=((n.gs.getD ((k-n.fst).toNat) an0).a) / 2) O;simpa using J)⟩)
 refine dL (aV A (eC (kE (aN A (fY 1 A A A) (aN A (bJ A A A (bA 0 A A)) ?_)))))
 refine fJ A A A A A A (fun Z=>?_) (fun Z=>?_)
 refine dL (aR A (cN 1 A (aN A (fY 1 A A A) (aN A (bJ A A A (bA 0 A A)) ?_))))
 refine aN A (gD A A A AH) ?_
 refine cH A (aH (z:=jI 0) (s:=1) (cs:=(mI [((n.gs.getD ((k-n.fst).toNat) an0).b) / 2])) A z8 A V A F A) ?_
 intro aa
 refine bT (i:=2) (z:=jI 0) (bytes:=8) (n':=([((n.gs.getD ((k-n.fst).toNat) an0).b) / 2]).length) (xs':=(([((n.gs.getD ((k-n.fst).toNat) an0).b) / 2]).map (Value.int .i64))) A A A A z8 F A A A A (aB 0 A) (bI _) AD (Nat.zero_add _) (nil_append _) (fun _=>A) ?_
 intro a0
 refine bG 1 A (cF 2 A ?_)
 exact cW (bM (post:=[rowE 3 1 a0 (([((n.gs.getD ((k-n.fst).toNat) an0).b) / 2]).length) (([((n.gs.getD ((k-n.fst).toNat) an0).b) / 2]).map (Value.int .i64))]) A A (eA [2] A) ⟨[((n.gs.getD ((k-n.fst).toNat) an0).b) / 2],A,AI,(by have J:=pU (k:=k) uM (x:=((n.gs.getD ((k-n.fst).toNat) an0).b) / 2) O;simpa using J)⟩)
 refine dL (aV A (eC (cF 2 A ?_)))
 exact cW (bM (post:=[rowE 3 1 (.slice (some ⟨g2,0,none⟩) 0 0) 0 ([])]) A A (eA [1] A) ⟨[],A,AI,uM⟩)
theorem Dl (n:Nt) (us ds:List Bl) (ab:List Int) (uv dv av:Value) (w:World) (hr:RdsNt w n) (hn:NtOk n) (hu:RdsW w uv 1 us.length (us.flatMap blC)) (bq:(us.length:Int)=n.cnt) (hd:RdsW w dv 1 ds.length (ds.flatMap blC)) (br:(ds.length:Int)=n.cnt) (ha:RdsW w av 1 ab.length (ab.map (Value.int .i64))) (a8:AbOk n.cnt ab) :
   Calls Tryz.prog 148 #[.agg #[.int .i64 n.ins,n.sv,n.av,n.ov],uv,dv,av] w (Ret w (fun u_ p_=>∃(bs:List Int) (v1:Value) (a6:Int),u_=.tuple #[v1,.int .i64 a6]∧p_=[rI9 3 v1 bs]∧BackOk (2*n.cnt.toNat) bs∧-1≤a6∧a6<2*n.cnt)):=by
 have bt:=hn.i0
 have bu:=hn.i1
 have bw:=hn.s1
 have bx:=hn.a1
 have bz:=hn.o1
 have bg:n.cnt=1+n.ins+n.ss.length+n.gs.length:=rfl
 have bh:n.fst=1+n.ins+n.ss.length:=rfl
 have bi:=a8.1
 refine aY (N:=199) (args:=[.agg #[jI n.ins,n.sv,n.av,n.ov],uv,dv,av]) Tryz.func148 A A (dW ?_)
 refine cU A (cE A A) ?_
 intro b1
 refine bG 2 A (dW ?_)
 refine cH A (bU (s:=1) A z8 A) ?_
 intro g2
 refine bG 1 A (dW ?_)
 refine cH A (bU (s:=1) A z8 A) ?_
 intro g3
 refine bG 1 A (aG (cF 1 A (bS ?_)))
 refine iG (α:=Nat) (β:=Value) [0,1,2,3,4,8,9,11] A (fun k X=>[rowE 3 1 (.slice (some ⟨g3,0,none⟩) 0 0) 0 ([]),rowE 3 1 X ((replicate k (-2:Int)).length) (mI (replicate k (-2:Int))),nB9 b1 n]) (fun k X=>[(10,X),(12,jI (k:Int))]) (fun k X=>k≤(2*n.cnt.toNat)) (fun k X=>(2*n.cnt.toNat)-k) 0 _ (Nat.zero_le _) (bV A) (cZ A) ?_
 intro k X ag
 have hk:=ag
 have c0:(replicate k (-2:Int)).length=k:=length_replicate
 refine aG (aG (cN 1 A (aN A (aP (cs:=[jI n.ins,n.sv,n.av,n.ov]) A A A A A (aM 2 A 0 A)) ?_)))
 refine cM A (aF A A (fun w hm=>aI (dK n w (hr.below hm.bel) hn))) (aN A (eZ A A A AE) ?_)
 refine aW A A A A A A (fun h5=>?_) (fun h5=>?_)
 refine dL (aR A (eC (jR (cN 1 A ?_))))
 refine cH A (aH (z:=jI 0) (s:=1) (cs:=(mI [-2])) A z8 A V A F A) ?_
 intro g6
 refine bT (i:=2) (z:=jI 0) (bytes:=8) A A A A z8 F A A A A (aB 0 A) (bI _) AD (bK (replicate k (-2:Int)) ([-2])) (cB (replicate k (-2:Int)) ([-2])) (fun _=>A) ?_
 intro v7
 refine eS 1 A (eB (cN 1 A (aN A (eY A A A) (eS 1 A ?_))))
 exact If (l':=[rowE 3 1 (.slice (some ⟨g6,0,none⟩) 1 1) 1 (mI [-2]),rowE 3 1 (.slice (some ⟨g3,0,none⟩) 0 0) 0 ([]),rowE 3 1 v7 ((replicate (k+1) (-2:Int)).length) (mI (replicate (k+1) (-2:Int))),nB9 b1 n]) (by rw[List.replicate_succ']) (bO (k+1) v7 O O (bV A) (eA [1,0,0] A))
 refine dL (aV A ?_)
 refine bW (fM ?_)
 refine aO (bB (aG (cF 1 A (bS ?_))))
 have ah:k=(2*n.cnt.toNat):=O
 subst ah
 refine mS (α:=Nat) (β:=List Int) (γ:=List Int) (δ:=Value) [0,1,2,3,4,8,9,10,28] A (fun k2 bs qs qv=>[rI9 3 qv qs,rI9 3 X bs,nB9 b1 n]) (fun k2 bs qs qv=>[(11,qv),(13,jI (k2:Int))]) (fun k2 bs qs qv=>(k2:Int)≤n.cnt∧Srch (2*n.cnt.toNat) bs qs) (fun k2 bs qs qv=>n.cnt.toNat-k2) 0 _ [] _ ⟨O,Srch.start _⟩ (bV A) (cZ A) ?_
 intro k2 bs qs qv ai
 obtain⟨c1,a5⟩:=ai
 have c2:=a5.len
 have c3:=a5.qlen
 refine aG (aG (cN 1 A (aN A (aP (cs:=[jI n.ins,n.sv,n.av,n.ov]) A A A A A (aM 2 A 0 A)) ?_)))
 refine cM A (aF A A (fun w hm=>aI (dK n w (hr.below hm.bel) hn))) (aW A A A A A A (fun h9=>?_) (fun h9=>?_))
 refine dL (aR A (eC (jR (dW (aN A (aP (cs:=[jI n.ins,n.sv,n.av,n.ov]) A A A A A (aM 2 A 0 A)) (aS 1 A ?_))))))
 refine fF A A A (aF A A (fun w hm=>Fb n (k2:Int) w (hr.below hm.bel) hn O)) ?_
 intro aj c4 ak
 obtain⟨U,rfl,al,a7⟩:=ak
 refine bG 1 A (cF 1 A (bS ?_))
 refine mS (α:=Nat) (β:=List Int) (γ:=List Int) (δ:=Value) [0,1,2,3,4,8,9,10,13,14,28,37] A (fun i D E Y=>[rI9 3 aj U,rI9 3 Y E,rI9 3 X D,nB9 b1 n]) (fun i D E Y=>[(11,Y),(15,jI (i:Int))]) (fun i D E Y=>i≤U.length∧Srch (2*n.cnt.toNat) D E) (fun i D E Y=>U.length-i) 0 bs qs _ ⟨Nat.zero_le _,a5⟩ (bV A) (cZ A) ?_
 intro i D E Y a9
 obtain⟨hi,J⟩:=a9
 have bj:=J.len
 have bk:=J.qlen
 refine aG (aG (cN 2 A (aN A (eV A A A (aB 0 A)) ?_)))
 refine aW A A A A A A (fun am=>?_) (fun am=>?_)
 refine aS 3 A (aN A (cV 1 A A A A (aE hu)) ?_)
 refine aN A (aL (u:=.bool ((us.getD k2 bl0).b)) A A A (aE hu) (dF blC (fun r=>.bool r.b) (fun _=>A) us bl0 (show k2<_ by omega))) (bD (fun an=>?_) (fun an=>?_))
 refine bG 1 A (aR A (eC (jR (dW ?_))))
 have ao:=a7 _ (dJ (d:=(0:Int)) (show i<U.length by omega))
 refine aS 3 A (aN A (cV 1 A A A A (aB 0 A)) (aN A (lD A A A (aB 0 A)) (aN A (cV 1 A A A A (aE hu)) ?_)))
 refine aN A (aL (u:=.bool ((us.getD ((U.getD i 0).toNat) bl0).b)) A A A (aE hu) (dF blC (fun r=>.bool r.b) (fun _=>A) us bl0 (show(U.getD i 0).toNat<_ by omega))) (bD (fun ap=>?_) (fun ap=>?_))
 refine bG 12 A (jQ A (cG ?_))
 refine bB (cN 1 A (aN A (eY A A A) (eS 1 A ?_)))
 exact dH (i+1) D E Y ⟨O,J⟩ O (bV A) (cZ A)
 refine aS 5 A (aN A (cV 1 A A A A (aB 0 A)) (aN A (lD A A A (aB 0 A)) (aN A (eZ A A A AE) (aN A (cV 1 A A A A (aB 2 A)) (aN A (lP A A A (aB 2 A)) ?_)))))
 refine bZ A A A A A A (fun aq=>?_) (fun aq=>?_)
 refine bG 1 A (aR A (aG (cN 3 A (aN A (cV 1 A A A A (aB 0 A)) (aN A (lD A A A (aB 0 A)) (aN A (eZ A A A AE) (aN A (cV 1 A A A A (aB 2 A)) ?_)))))))
 refine dS (i:=2) (n':=(D.set ((2*(U.getD i 0)).toNat) (-1)).length) (xs':=(mI (D.set ((2*(U.getD i 0)).toNat) (-1)))) A A A A A A A A AA List.length_set.symm (eP _ _ _) A (dL (cN 3 A (aN A (cV 1 A A A A (aB 0 A)) (aN A (lD A A A (aB 0 A)) (aN A (eZ A A A AE) ?_)))))
 refine cH A (aH (z:=jI 0) (s:=1) (cs:=(mI [2*(U.getD i 0)])) A z8 A V A F A) ?_
 intro c5
 refine bT (i:=2) (z:=jI 0) (bytes:=8) A A A A z8 F A A A A (aB 0 A) (bI _) AD (bK E ([2*(U.getD i 0)])) (cB E ([2*(U.getD i 0)])) (fun _=>A) ?_
 intro ar
 refine eS 1 A (eB (cN 1 A (aN A (eY A A A) (eS 1 A ?_))))
 exact dH (i+1) (D.set ((2*(U.getD i 0)).toNat) (-1)) (E++([2*(U.getD i 0)])) ar ⟨O,(J.put O I (.inl A))⟩ O (bV A) (eA [1,0,0,0] A)
 refine bG 1 A (jQ A (eB (cN 1 A (aN A (eY A A A) (eS 1 A ?_)))))
 exact dH (i+1) D E Y ⟨O,J⟩ O (bV A) (cZ A)
 refine bG 1 A (aV A ?_)
 refine bW (fM ?_)
 refine aO (eB (cN 1 A (aN A (eY A A A) (eS 1 A ?_))))
 exact dH (k2+1) D E Y ⟨O,J⟩ O (bV A) (eA [1,0,0] A)
 refine bG 6 A (aV A ?_)
 refine bW (fM ?_)
 refine aO (eB (cN 1 A (aN A (eY A A A) (eS 1 A ?_))))
 exact dH (k2+1) D E Y ⟨O,J⟩ O (bV A) (eA [1,0,0] A)
 refine dL (aV A ?_)
 refine bW (fM ?_)
 refine aO (bB (aG (cF 1 A (bS ?_))))
 refine mS (α:=Nat) (β:=List Int) (γ:=List Int) (δ:=Value) [0,1,2,3,4,8,9,10,28,37] A (fun q G e K=>[rI9 3 K e,rI9 3 X G,nB9 b1 n]) (fun q G e K=>[(11,K),(16,jI (q:Int))]) (fun q G e K=>q≤e.length∧Srch (2*n.cnt.toNat) G e) (fun q G e K=>(2*n.cnt.toNat)-q) 0 bs qs _ ⟨Nat.zero_le _,a5⟩ (bV A) (cZ A) ?_
 intro q G e K aa
 obtain⟨hq,a2⟩:=aa
 have bl:=a2.len
 have bm:=a2.qlen
 refine aG (aG (cN 2 A (aN A (eV A A A (aB 0 A)) ?_)))
 refine aW A A A A A A (fun au=>?_) (fun au=>?_)
 refine dL (aR A (eC (jR (aG (cN 2 A (aN A (cV 1 A A A A (aB 0 A)) ?_))))))
 have c6:=a2.at (q:=q) O
 refine aN A (lD A A A (aB 0 A)) (aN A (gD A A A AH) ?_)
 refine bG 1 A (dW ?_)
 refine cH A (bU (s:=1) A z8 A) ?_
 intro aw
 refine bG 1 A ?_
 refine kX (α:=Value) (β:=List Int) (fun nv B=>[rI9 3 nv B,rI9 3 K e,rI9 3 X G,nB9 b1 n]) (fun nv B=>[(0,.agg #[jI n.ins,n.sv,n.av,n.ov]),(1,uv),(2,dv),(3,av),(4,pI b1),(8,.slice none 0 0),(9,jI 0),(10,X),(11,K),(16,jI (q:Int)),(17,jI ((e.getD q 0) / 2)),(18,nv),(28,.bool false),(37,.bool false),(92,.bool true)]) (fun nv B=>NxOk (2*n.cnt.toNat) B∧B.length≤3) ?_ ?_
 refine aG (cN 2 A (aN A (cV 1 A A A A (aB 1 A)) (aN A (lD A A A (aB 1 A)) (aN A (fT A A A AE) ?_))))
 refine bZ A A A A A A (fun ax=>?_) (fun ax=>?_)
 refine dL (aR A (aG (cN 2 A (aN A (cV 1 A A A A (aE hd)) ?_))))
 refine aN A (aL (u:=.bool ((ds.getD (((e.getD q 0) / 2).toNat) bl0).b)) A A A (aE hd) (dF blC (fun r=>.bool r.b) (fun _=>A) ds bl0 (show((e.getD q 0) / 2).toNat<_ by omega))) (bD (fun ay=>?_) (fun ay=>?_))
 refine bG 1 A (aV A (dW ?_))
 have bn:=a8.2 ((e.getD q 0) / 2).toNat O
 refine aS 2 A (aN A (cV 1 A A A A (aE ha)) (aN A (lP A A A (aE ha)) ?_))
 refine eK A A A A A A (fun az=>?_) (fun az=>?_)
 refine dL (aR A (cN 3 A (aN A (cV 1 A A A A (aE ha)) (aN A (lP A A A (aE ha)) (aN A (eZ A A A AE) (aN A (eY A A A) ?_))))))
 refine cH A (aH (z:=jI 0) (s:=1) (cs:=(mI [(2*(ab.getD (((e.getD q 0) / 2).toNat) 0))+1])) A z8 A V A F A) ?_
 intro c7
 refine bT (i:=1) (z:=jI 0) (bytes:=8) (n':=([(2*(ab.getD (((e.getD q 0) / 2).toNat) 0))+1]).length) (xs':=(([(2*(ab.getD (((e.getD q 0) / 2).toNat) 0))+1]).map (Value.int .i64))) A A A A z8 F A A A A (aB 0 A) (bI _) AD (Nat.zero_add _) (nil_append _) (fun _=>A) ?_
 intro b0
 refine eS 1 A ?_
 exact eU b0 ([(2*(ab.getD (((e.getD q 0) / 2).toNat) 0))+1]) ⟨(by have h9:=(NxOk.nil (2*n.cnt.toNat)).app (x:=(2*(ab.getD (((e.getD q 0) / 2).toNat) 0))+1) O;simpa using h9),AI⟩ (bV A) (eA [1,0,0,0] A)
 refine dL (jQ A ?_)
 exact eU (.slice (some ⟨aw,0,none⟩) 0 0) ([]) ⟨NxOk.nil _,AI⟩ (bV A) (cZ A)
 refine bG 1 A (aR A (cN 2 A (aN A (eZ A A A AE) (aN A (eY A A A) ?_))))
 refine cH A (aH (z:=jI 0) (s:=1) (cs:=(mI [(2*((e.getD q 0) / 2))+1])) A z8 A V A F A) ?_
 intro c8
 refine bT (i:=1) (z:=jI 0) (bytes:=8) (n':=([(2*((e.getD q 0) / 2))+1]).length) (xs':=(mI ([(2*((e.getD q 0) / 2))+1]))) A A A A z8 F A A A A (aB 0 A) (bI _) AD (Nat.zero_add _) (nil_append _) (fun _=>A) ?_
 intro b2
 refine eS 1 A ?_
 exact eU b2 ([(2*((e.getD q 0) / 2))+1]) ⟨(by have h9:=(NxOk.nil (2*n.cnt.toNat)).app (x:=(2*((e.getD q 0) / 2))+1) O;simpa using h9),AI⟩ (bV A) (eA [1,0,0,0] A)
 refine dL (aV A (aG (aG (cN 1 A (aN A (aP (cs:=[jI n.ins,n.sv,n.av,n.ov]) A A A A A (aM 3 A 0 A)) ?_)))))
 refine cM A (aF A A (fun w hm=>aI (dZ n w (hr.below hm.bel) hn))) (aW A A A A A A (fun b3=>?_) (fun b3=>?_))
 refine dL (aR A (aG (kR _ [135,106,92,37,28,18,17,16,11,10,9,4,3,2,1,0] A ?_)))
 refine bL 6 [[],[],[],[1,2],[3],[0]] [136,137,138,139,140,8] [X,K,jI (q:Int),elP K ((q:Int).toNat*1),jI (e.getD q 0),X] F A ?_ ?_
 exact⟨aJ,aJ,aJ,aJ,aJ,aJ,trivial⟩
 simp only[drop_succ_cons,drop_zero]
 refine bG 1 A ?_
 refine cW (rR ?_)
 refine dE (rR ?_)
 refine dE (cK ?_)
 exact eQ (rs:=[.tmp 8,.tmp 9]) (vs:=[X,jI (e.getD q 0)]) (post:=[rI9 3 X G]) A ⟨A,A,trivial⟩ A (eA [2] A) ⟨G,_,_,A,A,a2.back,O,O⟩
 refine dL (aV A (eC (dW (aN A (aP (cs:=[jI n.ins,n.sv,n.av,n.ov]) A A A A A (aM 3 A 0 A)) (aS 1 A ?_)))))
 refine fF A A A (aF A A (fun w hm=>Fb n ((e.getD q 0) / 2) w (hr.below hm.bel) hn O)) ?_
 intro b4 c9 b5
 obtain⟨U,rfl,al,a7⟩:=b5
 refine bG 1 A (aG (cF 1 A (bS ?_)))
 refine fP (α:=Nat) (β:=Value) (γ:=List Int) [0,1,2,3,4,8,9,10,11,16,17,19,28,37,92,106,135] A (fun i5 nv B=>[rI9 3 b4 U,rI9 3 nv B,rI9 3 K e,rI9 3 X G,nB9 b1 n]) (fun i5 nv B=>[(18,nv),(20,jI (i5:Int))]) (fun i5 nv B=>i5≤U.length∧NxOk (2*n.cnt.toNat) B∧B.length≤i5) (fun i5 nv B=>U.length-i5) 0 _ [] ⟨Nat.zero_le _,NxOk.nil _,AI⟩ (bV A) (cZ A) ?_
 intro i5 nv B ac
 obtain⟨ca,a4,b6⟩:=ac
 refine aG (aG (cN 2 A (aN A (eV A A A (aB 0 A)) ?_)))
 refine aW A A A A A A (fun b7=>?_) (fun b7=>?_)
 refine dL (aR A (eC (jR (bP ?_))))
 have ao:=a7 _ (dJ (d:=(0:Int)) (show i5<U.length by omega))
 refine aS 3 A (aN A (cV 1 A A A A (aB 0 A)) (aN A (lD A A A (aB 0 A)) (aN A (eZ A A A AE) ?_)))
 refine cH A (aH (z:=jI 0) (s:=1) (cs:=(mI [2*(U.getD i5 0)])) A z8 A V A F A) ?_
 intro cb
 refine bT (i:=2) (z:=jI 0) (bytes:=8) A A A A z8 F A A A A (aB 0 A) (bI _) AD (bK B ([2*(U.getD i5 0)])) (cB B ([2*(U.getD i5 0)])) (fun _=>A) ?_
 intro b8
 refine eS 1 A (eB (cN 1 A (aN A (eY A A A) (eS 1 A ?_))))
 exact aQ (i5+1) b8 (B++([2*(U.getD i5 0)])) ⟨O,a4.app O,by rw[length_append,length_singleton];omega⟩ O (bV A) (eA [1,0,0,0,0] A)
 refine dL (aV A ?_)
 refine bW (fM ?_)
 refine aO (bB (aG (cN 2 A (aN A (cV 1 A A A A (aE hd)) ?_))))
 refine aN A (aL (u:=.bool ((ds.getD (((e.getD q 0) / 2).toNat) bl0).b)) A A A (aE hd) (dF blC (fun r=>.bool r.b) (fun _=>A) ds bl0 (show((e.getD q 0) / 2).toNat<_ by omega))) (bD (fun b9=>?_) (fun b9=>?_))
 refine dL (aR A (cN 2 A (aN A (eZ A A A AE) ?_)))
 refine cH A (aH (z:=jI 0) (s:=1) (cs:=(mI [2*((e.getD q 0) / 2)])) A z8 A V A F A) ?_
 intro cc
 refine bT (i:=2) (z:=jI 0) (bytes:=8) A A A A z8 F A A A A (aB 0 A) (bI _) AD (bK B ([2*((e.getD q 0) / 2)])) (cB B ([2*((e.getD q 0) / 2)])) (fun _=>A) ?_
 intro ba
 refine eS 1 A ?_
 exact eU ba (B++([2*((e.getD q 0) / 2)])) ⟨a4.app O,(by rw[length_append,length_singleton];omega)⟩ (bV A) (eA [2,0,0,0] A)
 refine dL (jQ A ?_)
 exact eU nv B ⟨a4,O⟩ (bV A) (eA [1,0,0,0] A)
 intro nv B ad
 obtain⟨a4,b6⟩:=ad
 refine cF 1 A (bS ?_)
 refine mS (α:=Nat) (β:=List Int) (γ:=List Int) (δ:=Value) [0,1,2,3,4,8,9,10,16,17,18,28,37,92] A (fun Z M h a0=>[rI9 3 nv B,rI9 3 a0 h,rI9 3 X M,nB9 b1 n]) (fun Z M h a0=>[(11,a0),(21,jI (Z:Int))]) (fun Z M h a0=>Z≤B.length∧Srch (2*n.cnt.toNat) M h∧q<h.length∧h.getD q 0=(e.getD q 0)) (fun Z M h a0=>B.length-Z) 0 G e _ ⟨Nat.zero_le _,a2,O,A⟩ (bV A) (cZ A) ?_
 intro Z M h a0 ae
 obtain⟨cd,a3,bb,af⟩:=ae
 have bo:=a3.len
 have bp:=a3.qlen
 have bc:h.getD q 0∈h:=dJ bb
 refine aG (aG (cN 2 A (aN A (eV A A A (aB 0 A)) ?_)))
 refine aW A A A A A A (fun bd=>?_) (fun bd=>?_)
 refine dL (aR A (eC (jR (dW ?_))))
 have ce:=a4.at (k:=Z) O
 refine aS 3 A (aN A (cV 1 A A A A (aB 0 A)) (aN A (lD A A A (aB 0 A)) (aN A (cV 1 A A A A (aB 2 A)) (aN A (lP A A A (aB 2 A)) ?_))))
 refine bZ A A A A A A (fun be=>?_) (fun be=>?_)
 refine dL (aR A (aG ?_))
 refine bL 10 [[],[],[],[1,2],[3],[],[],[5,6],[7],[0,4]] [181,182,183,184,185,186,187,188,189,190] [X,nv,jI (Z:Int),elP nv ((Z:Int).toNat*1),jI (B.getD Z 0),a0,jI (q:Int),elP a0 ((q:Int).toNat*1),jI (h.getD q 0),elP X ((B.getD Z 0).toNat*1)] F A ?_ ?_
 exact⟨aJ,aJ,aJ,aJ,aJ,aJ,aJ,aJ,aJ,aJ,trivial⟩
 simp only[drop_succ_cons,drop_zero]
 refine dS (i:=2) (n':=(M.set ((B.getD Z 0).toNat) (h.getD q 0)).length) (xs':=(mI (M.set ((B.getD Z 0).toNat) (h.getD q 0)))) A A A A A A A A AA List.length_set.symm (eP _ _ _) A (dL (cN 3 A (aN A (cV 1 A A A A (aB 0 A)) (aN A (lD A A A (aB 0 A)) ?_))))
 refine cH A (aH (z:=jI 0) (s:=1) (cs:=(mI [B.getD Z 0])) A z8 A V A F A) ?_
 intro cf
 refine bT (i:=2) (z:=jI 0) (bytes:=8) A A A A z8 F A A A A (aB 0 A) (bI _) AD (bK h ([B.getD Z 0])) (cB h ([B.getD Z 0])) (fun _=>A) ?_
 intro bf
 refine eS 1 A (eB (cN 1 A (aN A (eY A A A) (eS 1 A ?_))))
 exact dH (Z+1) (M.set ((B.getD Z 0).toNat) (h.getD q 0)) (h++([B.getD Z 0])) bf ⟨O,a3.put O I (.inr bc),by rw[length_append,length_singleton];omega,(by rw[gM O];exact af)⟩ O (bV A) (eA [1,0,0,0] A)
 refine dL (jQ A (eB (cN 1 A (aN A (eY A A A) (eS 1 A ?_)))))
 exact dH (Z+1) M h a0 ⟨O,a3,O,af⟩ O (bV A) (cZ A)
 refine dL (aV A ?_)
 refine bW (fM ?_)
 refine aO (eB (cN 1 A (aN A (eY A A A) (eS 1 A ?_))))
 exact dH (q+1) M h a0 ⟨O,a3⟩ O (bV A) (eA [1,0,0] A)
 refine dL (aV A ?_)
 refine bW (fM ?_)
 refine aO (bB (cF 3 A ?_))
 exact cW (eQ (rs:=[.tmp 8,.tmp 9]) (vs:=[X,jI (-1)]) (post:=[rI9 3 X G]) A ⟨A,A,trivial⟩ A (eA [1] A) ⟨G,_,_,A,A,a2.back,O,O⟩)
open Go.RowKit
theorem Hk {r:Nat→Nat}{a e:Int}(B:0≤a) (h:0≤e→r e.toNat<r a.toNat):(if 0≤e then r e.toNat+1 else 0)<(if 0≤a then r a.toNat+1 else 0):=by
  rw[if_pos B];split
  · have:=h I;omega
  · omega
def tFstH (v:Value):Value:=match v with | .tuple #[x,_]=>x|_=>undef
def tSndB (v:Value):Bool:=match v with | .tuple #[_,.bool b]=>b|_=>false
end Go.Proofs.YtkbplgggflljlaaGreat
