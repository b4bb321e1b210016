/- Rows of lamps that are looked at: the runs, handed on one by one (own text). -/
import Derived.Test.YtpciieagafddcaaDoorQiET1
import Derived.RangeFuncNested
import Derived.RangeFuncBound
import Derived.RangeFuncCalls
import Derived.RangeFuncLeaves
import Derived.RangeFuncBox
import Derived.Shelf.Abstract
import Derived.Shelf.RegionOpen
import Derived.WalkKit
import Derived.OwnWalkIn
import Derived.TacticsInMore
import Derived.LoopNIn
import Derived.LoopIn
namespace Go.Proofs.YtpciieagafddcaaDoor.E
open Go Go.RowKit Go.Proofs Go.Proofs.YtpciieagafddcaaDoorW.PrintWords Go.Proofs.YtpciieagafddcaaDoorW.PrintLast Go.Proofs.YtpciieagafddcaaDoorW.PrintMore Go.Proofs.YtpciieagafddcaaDoor.F
open Go.Shelf
set_option linter.unusedVariables false
set_option linter.unusedSimpArgs false
set_option maxRecDepth 100000
set_option maxHeartbeats 8000000
attribute [local go_sem] Oper.semAt_some
attribute [local irreducible] acode callR
namespace Tr
open St Rw
open PX (cell)
open PY (inR shows same IsRun Runs hitR longS longB flush)
/-! ### what a group shows -/
def SpShows : Spec := .pure fun a r => ∃ rows, ∃ i : Nat, ∃ g, a = [fInts (rows.getD i []), fI g] ∧ r = fI (shows rows i g)
theorem shows_ok : SpecOk Tryd.prog 82 SpShows := by
  refine spec_of_code TZok ΓOk.nil mixed Tryd.func82 rfl ?_
  rintro args pre r post ⟨⟨rows, i, g, rfl, rfl⟩, rfl, rfl⟩
  refine ⟨rfl, ?_⟩
  by_cases h0 : 0 ≤ g
  case neg =>
    have v0 : vB (decide (g < 0)) = vB true := by rw [decide_eq_true (by omega)]
    repeat' (first | refine st_w 6 rfl rfl rfl rfl rfl (fun _ => rfl) v0 (fun _ => rfl) ?_ | refine st_v rfl rfl rfl rfl (fun _ => rfl) rfl (fun _ => rfl) ?_ | refine st_skip rfl rfl rfl ?_ | refine st_b rfl rfl rfl rfl (fun _ => rfl) rfl (fun h1 => ?_) (fun h1 => ?_) | refine st_n rfl rfl rfl rfl (fun _ => rfl) rfl (fun _ => rfl) ?_ | refine st_s rfl rfl rfl rfl (fun _ => rfl) rfl (fun _ => rfl) ?_ | refine c_seq ?_ | refine c_region ?_ | refine c_plain rfl ?_ | refine c_drawn rfl (by kernel_rfl) ?_ | refine st_nil ?_ | refine c_norm ?_ | refine c_cret ?_ | refine c_ret ?_ | refine c_true rfl ?_ | refine c_false rfl ?_ | refine c_skip ?_ | refine c_block ?_ | refine c_bnorm ?_ | refine c_bret ?_ | refine c_bexit rfl ?_ | refine c_bpass rfl ?_ | refine c_exit ?_ | refine c_cexit ?_ | refine c_lret ?_ | refine c_lexit ?_ | refine c_scope ?_ | refine c_label ?_ | refine c_snorm ?_ | refine c_sret ?_ | refine c_sexit ?_ | fail)
    exact ⟨tk_eq (by unfold shows inR; rw [if_neg (by rw [decide_eq_false (by omega)]; decide)]), rfl, rfl, trivial⟩
  have v0 : vB (decide (g < 0)) = vB false := by rw [decide_eq_false (by omega)]
  by_cases h1 : g < ((rows.getD i []).length : Int)
  · have v1 : vB (decide (g ≥ ((rows.getD i []).length : Int))) = vB false := by rw [decide_eq_false (by omega)]
    repeat' (first | refine st_w 6 rfl rfl rfl rfl rfl (fun _ => rfl) v0 (fun _ => rfl) ?_ | refine st_w 11 rfl rfl rfl rfl rfl (fun _ => rfl) v1 (fun _ => rfl) ?_ | refine st_v rfl rfl rfl rfl (fun _ => rfl) rfl (fun _ => rfl) ?_ | refine st_skip rfl rfl rfl ?_ | refine st_b rfl rfl rfl rfl (fun _ => rfl) rfl (fun h1 => ?_) (fun h1 => ?_) | refine st_n rfl rfl rfl rfl (fun _ => rfl) rfl (fun _ => rfl) ?_ | refine st_s rfl rfl rfl rfl (fun _ => rfl) rfl (fun _ => rfl) ?_ | refine c_seq ?_ | refine c_region ?_ | refine c_plain rfl ?_ | refine c_drawn rfl (by kernel_rfl) ?_ | refine st_nil ?_ | refine c_norm ?_ | refine c_cret ?_ | refine c_ret ?_ | refine c_true rfl ?_ | refine c_false rfl ?_ | refine c_skip ?_ | refine c_block ?_ | refine c_bnorm ?_ | refine c_bret ?_ | refine c_bexit rfl ?_ | refine c_bpass rfl ?_ | refine c_exit ?_ | refine c_cexit ?_ | refine c_lret ?_ | refine c_lexit ?_ | refine c_scope ?_ | refine c_label ?_ | refine c_snorm ?_ | refine c_sret ?_ | refine c_sexit ?_ | refine st_pv rfl rfl rfl rfl (fun _ => rfl) (show 0 ≤ g ∧ g < ((rows.getD i []).length : Int) by omega) rfl (fun _ => rfl) ?_ | fail)
    exact ⟨tk_eq (by unfold shows inR; rw [if_pos (decide_eq_true ⟨h0, h1⟩)]; rfl), rfl, rfl, trivial⟩
  · have v1 : vB (decide (g ≥ ((rows.getD i []).length : Int))) = vB true := by rw [decide_eq_true (by omega)]
    repeat' (first | refine st_w 6 rfl rfl rfl rfl rfl (fun _ => rfl) v0 (fun _ => rfl) ?_ | refine st_w 11 rfl rfl rfl rfl rfl (fun _ => rfl) v1 (fun _ => rfl) ?_ | refine st_v rfl rfl rfl rfl (fun _ => rfl) rfl (fun _ => rfl) ?_ | refine st_skip rfl rfl rfl ?_ | refine st_b rfl rfl rfl rfl (fun _ => rfl) rfl (fun h1 => ?_) (fun h1 => ?_) | refine st_n rfl rfl rfl rfl (fun _ => rfl) rfl (fun _ => rfl) ?_ | refine st_s rfl rfl rfl rfl (fun _ => rfl) rfl (fun _ => rfl) ?_ | refine c_seq ?_ | refine c_region ?_ | refine c_plain rfl ?_ | refine c_drawn rfl (by kernel_rfl) ?_ | refine st_nil ?_ | refine c_norm ?_ | refine c_cret ?_ | refine c_ret ?_ | refine c_true rfl ?_ | refine c_false rfl ?_ | refine c_skip ?_ | refine c_block ?_ | refine c_bnorm ?_ | refine c_bret ?_ | refine c_bexit rfl ?_ | refine c_bpass rfl ?_ | refine c_exit ?_ | refine c_cexit ?_ | refine c_lret ?_ | refine c_lexit ?_ | refine c_scope ?_ | refine c_label ?_ | refine c_snorm ?_ | refine c_sret ?_ | refine c_sexit ?_ | fail)
    exact ⟨tk_eq (by unfold shows inR; rw [if_neg (by rw [decide_eq_false (by omega)]; decide)]), rfl, rfl, trivial⟩
/-! ### a part of a walk by the engine -/
def nK (F : AS → Prop) (e : Exit) (s : AS) : Prop :=
  match e with
  | .normal => F s
  | _ => False
theorem n_k {F : AS → Prop} {s : AS} (h : F s) : nK F .normal s := h
section
variable {P : Program} {T : TT} {Γ : Nat → Option Spec}
theorem part {n : Nat} (hT : TOk P T) (hΓ : ΓOk P Γ) (hm : P.follows .mixedOrders = true) {base : Nat} {X : Ini} {w0 : World} {c : Cx} {act : Act} {s : AS} {a d : Code} {K : AS → Prop} {Q : Exit → Act → World → Prop}
    (ha : acode T Γ a (nK K) s) (hs : SR base X w0 (fun id => s.nid ≤ id) c s act)
    (hd : ∀ c' s' a', SR base X w0 (fun id => s'.nid ≤ id) c' s' a' → K s' → d.wpIn Fence.wide n P Q a' c'.w) : (Code.seq a d).wpIn Fence.wide n P Q act c.w := by
  refine wpIn_seq (wpIn_wide.2 (wp_mono (acode_ok hT hΓ hm a _ s ha c act hs) ?_))
  rintro e a' w' ⟨c', s', rfl, hs', hk⟩
  cases e with
  | normal => exact hd c' s' a' hs' hk
  | _ => exact hk.elim
theorem partX {n : Nat} (hT : TOk P T) (hΓ : ΓOk P Γ) (hm : P.follows .mixedOrders = true) {base : Nat} {X : Ini} {w0 : World} {c : Cx} {act : Act} {s : AS} {a d : Code} {j : Nat} {Q : Exit → Act → World → Prop}
    (ha : acode T Γ a (fun e _ => e = .exit j) s) (hs : SR base X w0 (fun id => s.nid ≤ id) c s act)
    (hd : ∀ c' s' a', SR base X w0 (fun id => s'.nid ≤ id) c' s' a' → Q (.exit j) a' c'.w) : (Code.seq a d).wpIn Fence.wide n P Q act c.w := by
  refine wpIn_seq (wpIn_wide.2 (wp_mono (acode_ok hT hΓ hm a _ s ha c act hs) ?_))
  rintro e a' w' ⟨c', s', rfl, hs', rfl⟩
  exact hd c' s' a' hs'
theorem part2 {n : Nat} (hT : TOk P T) (hΓ : ΓOk P Γ) (hm : P.follows .mixedOrders = true) {base : Nat} {X : Ini} {w0 : World} {c : Cx} {act : Act} {s : AS} {a b d : Code} {K : AS → Prop} {Q : Exit → Act → World → Prop}
    (ha : acode T Γ a (nK (acode T Γ b (nK K))) s) (hs : SR base X w0 (fun id => s.nid ≤ id) c s act)
    (hd : ∀ c' s' a', SR base X w0 (fun id => s'.nid ≤ id) c' s' a' → K s' → d.wpIn Fence.wide n P Q a' c'.w) : (Code.seq a (Code.seq b d)).wpIn Fence.wide n P Q act c.w :=
  part hT hΓ hm ha hs fun c' s' a' hs' hk => part hT hΓ hm hk hs' hd
end
attribute [irreducible] nK
/-- In the middle of a function that holds no block of its own. -/
theorem sr_mid {c : Cx} {a : Act} {fr : List (Nat × FV)} {N : Nat} (hgl : GlOk c) (hI : ∀ k, c.I k → k < c.w.heap.size) (hρ : ∀ j, c.ρ j = none) (hN : a.tmps.size = N) (hd : a.defers = []) (hf : ∀ p ∈ fr, ∃ y, a.tmps[p.1]? = some y ∧ p.2.R c y) :
    SR c.w.heap.size (iniOf c [] []) c.w (fun id => 0 ≤ id) c ⟨fr, [], 0, N, 0⟩ a := by
  have h := sr_init (fn := { (default : Func) with ntmps := 0 }) (D := []) (args := []) (pre := []) (ys := []) trivial hgl hI (fun j _ => hρ j) (fun j b h => by simp at h) (fun i j h => by simp at h)
  exact ⟨hN, hd, fun t fv hl => hf (t, fv) (look_mem hl), h.H, fun id _ => hρ id, h.m⟩
theorem Below.grow {W W' : World} (h : Below W.heap.size W W') : W.grownBy W' none := ⟨h.os, h.tape, h.output, h.size, fun k hk _ => h.block k hk⟩
/-- The row that a box holds. -/
def rowOf (Bo : Nat) (W : World) : Option Nat := (W.cell? ⟨Bo, 0, none⟩).bind Value.ownBlock
theorem rowOf_same {Bo : Nat} {W W' : World} (h : W'.heap[Bo]? = W.heap[Bo]?) : rowOf Bo W' = rowOf Bo W := by
  unfold rowOf
  rw [World.cell?_of_block (w := W) (w' := W') (a := ⟨Bo, 0, none⟩) h]
/-- What a round keeps: all cells but a box's, and its row's. -/
structure RunK (Bo : Nat) (W W' : World) : Prop where
  os : W'.os = W.os
  tape : W'.tape = W.tape
  output : W'.output = W.output
  size : W.heap.size ≤ W'.heap.size
  cells : ∀ (a : Addr) u, W.cell? a = some u → a.block ≠ Bo → rowOf Bo W ≠ some a.block → W'.heap[a.block]? = W.heap[a.block]?
  row : ∀ r, rowOf Bo W' = some r → rowOf Bo W = some r ∨ (W.heap.size ≤ r ∧ r < W'.heap.size)
theorem RunK.trans {Bo : Nat} {A B C : World} (h : RunK Bo A B) (k : RunK Bo B C) : RunK Bo A C := by
  refine ⟨k.os.trans h.os, k.tape.trans h.tape, k.output.trans h.output, Nat.le_trans h.size k.size, fun a u h1 h2 h3 => ?_, fun r hr => ?_⟩
  · have e1 := h.cells a u h1 h2 h3
    refine (k.cells a u ((World.cell?_of_block e1).trans h1) h2 fun hr => ?_).trans e1
    rcases h.row _ hr with h4 | h4
    · exact h3 h4
    · have := World.block_lt_of_cell? A a h1
      omega
  · rcases k.row r hr with h4 | h4
    · rcases h.row r h4 with h5 | h5
      · exact .inl h5
      · exact .inr ⟨h5.1, Nat.lt_of_lt_of_le h5.2 k.size⟩
    · exact .inr ⟨Nat.le_trans h.size h4.1, h4.2⟩
theorem RunK.of_below {Bo : Nat} {W W' : World} (hb : Below W.heap.size W W') (h : Bo < W.heap.size) : RunK Bo W W' :=
  ⟨hb.os, hb.tape, hb.output, hb.size, fun a u h1 _ _ => hb.block _ (World.block_lt_of_cell? W a h1), fun r hr => .inl (by rw [rowOf_same (hb.block Bo h)] at hr; exact hr)⟩
theorem CV.S_monoC {w w' : World} {I : Nat → Prop} (hb : ∀ (a : Addr) u, I a.block → w.cell? a = some u → w'.heap[a.block]? = w.heap[a.block]?) : ∀ (x : CV) (y : Value), x.S w I y → x.S w' I y := by
  intro x
  induction x with
  | v x => intro y h; exact h
  | ptr => intro y h; exact h
  | own => intro y h; exact h
  | rp => intro y h; exact h
  | fn => intro y h; exact h
  | ep n el ih =>
    rintro y ⟨a, rfl, ha, h⟩
    refine ⟨a, rfl, ha, fun j hj => ?_⟩
    obtain ⟨u, hu, hs, h1⟩ := h j hj
    exact ⟨u, (World.cell?_of_block (w := w) (hb _ u (by rw [add_block]; exact ha) hu)).trans hu, ih j u hs, h1⟩
  | sl n sz el ih =>
    rintro y ⟨A, cap, rfl, hc, hm, h⟩
    refine ⟨A, cap, rfl, hc, hm, fun i j hi hj => ?_⟩
    obtain ⟨a, u, rfl, ha, hu, hs, h1⟩ := h i j hi hj
    exact ⟨a, u, rfl, ha, (World.cell?_of_block (w := w) (hb _ u (by rw [add_block]; exact ha) hu)).trans hu, ih i j u hs, h1⟩
/-- Behind a part of the walk nothing that lay has turned. -/
theorem below_of {c' : Cx} {s' : AS} {a' : Act} {Z : Nat → Prop} {c : Cx} (h : SR c.w.heap.size (iniOf c [] []) c.w Z c' s' a') : Below c.w.heap.size c.w c'.w :=
  ⟨h.H.os, h.H.tape, h.H.out, h.H.sz, fun k hk => h.H.fx k hk (fun ⟨j, hj, _⟩ => by simp at hj)⟩
def eB0 (rows : List (List Int)) : FV := .t (.one (.ep 1 fun _ => cRows rows))
def eB1 (g : Int) : FV := .t (.one (.ep 1 fun _ => cI g))
/-! ### the iterator -/
def yv (l : Nat) : Value := .func (.yield l) #[] #[]
def fY (l : Nat) : FV := .t (.one (.v (yv l)))
abbrev cxI (W : World) (I : Nat → Prop) : Cx := ⟨W, I, fun _ => none⟩
/-- What it reads stays. -/
structure Stays (rows : List (List Int)) (g : Int) (Bo : Nat) (y1 y2 : Value) (W : World) (I : Nat → Prop) : Prop where
  inv : ∀ k, I k → k < W.heap.size ∧ k ≠ Bo ∧ rowOf Bo W ≠ some k
  gl : GlOk (cxI W I)
  e0 : (eB0 rows).R (cxI W I) y1
  e1 : (eB1 g).R (cxI W I) y2
  bo : Bo < W.heap.size
  row : ∀ r, rowOf Bo W = some r → r < W.heap.size
theorem Stays.keep {rows : List (List Int)} {g : Int} {Bo : Nat} {y1 y2 : Value} {W W' : World} {I : Nat → Prop} (h : Stays rows g Bo y1 y2 W I) (hk : RunK Bo W W') : Stays rows g Bo y1 y2 W' I := by
  have hb : ∀ (a : Addr) u, I a.block → W.cell? a = some u → W'.heap[a.block]? = W.heap[a.block]? := fun a u ha hu => hk.cells a u hu (h.inv _ ha).2.1 (h.inv _ ha).2.2
  refine ⟨fun k hk' => ⟨Nat.lt_of_lt_of_le (h.inv k hk').1 hk.size, (h.inv k hk').2.1, fun hr => ?_⟩, fun g l hl => ?_, ⟨CV.S_monoC hb _ _ h.e0.1, h.e0.2⟩, ⟨CV.S_monoC hb _ _ h.e1.1, h.e1.2⟩, Nat.lt_of_lt_of_le h.bo hk.size, fun r hr => (hk.row r hr).elim (fun h1 => Nat.lt_of_lt_of_le (h.row r h1) hk.size) (fun h1 => h1.2)⟩
  · rcases hk.row k hr with h1 | h1
    · exact (h.inv k hk').2.2 h1
    · have := (h.inv k hk').1
      omega
  · obtain ⟨h1, h2⟩ := h.gl g l hl
    refine ⟨h1, fun j u hj => ?_⟩
    obtain ⟨h3, h4⟩ := h2 j u hj
    exact ⟨(World.cell?_of_block (hb ⟨g, j, none⟩ u h1 h3)).trans h3, h4⟩
/-- Where the iterator stands between two rounds. -/
structure ItAt (l i : Nat) (rows : List (List Int)) (g : Int) (Bo : Nat) (a : Act) (W : World) : Prop where
  sz : a.tmps.size = 69
  df : a.defers = []
  t0 : a.tmps[0]? = some (yv l)
  t4 : a.tmps[4]? = some (.int .i64 (i : Int))
  ex : ∃ y1 y2 I, a.tmps[1]? = some y1 ∧ a.tmps[2]? = some y2 ∧ Stays rows g Bo y1 y2 W I
theorem it_fr {l i : Nat} {a : Act} {rows : List (List Int)} {g : Int} {Bo : Nat} {W : World} (h : ItAt l i rows g Bo a W) : ∃ I, (∀ k, I k → k < W.heap.size ∧ k ≠ Bo ∧ rowOf Bo W ≠ some k) ∧ 
    SR W.heap.size (iniOf (cxI W I) [] []) W (fun id => 0 ≤ id) (cxI W I) ⟨[(4, fI (i : Int)), (0, fY l), (1, eB0 rows), (2, eB1 g)], [], 0, 69, 0⟩ a := by
  obtain ⟨y1, y2, I, h1, h2, h3⟩ := h.ex
  refine ⟨I, h3.inv, sr_mid (c := cxI W I) h3.gl (fun k hk => (h3.inv k hk).1) (fun _ => rfl) h.sz h.df fun p hp => ?_⟩
  simp only [List.mem_cons, List.not_mem_nil, or_false] at hp
  rcases hp with rfl | rfl | rfl | rfl
  · exact ⟨_, h.t4, rfl, rfl⟩
  · exact ⟨_, h.t0, rfl, rfl⟩
  · exact ⟨_, h1, h3.e0⟩
  · exact ⟨_, h2, h3.e1⟩
structure ItS (l i : Nat) (rows : List (List Int)) (g : Int) (s : AS) : Prop where
  t0 : look s.fr 0 = some (fY l)
  t1 : look s.fr 1 = some (eB0 rows)
  t2 : look s.fr 2 = some (eB1 g)
  t4 : look s.fr 4 = some (fI (i : Int))
  N : s.N = 69
/-- Behind a part of the walk. -/
theorem it_of {l i j : Nat} {a a' : Act} {rows : List (List Int)} {g : Int} {Bo : Nat} {W : World} {I : Nat → Prop} {Z : Nat → Prop} {c' : Cx} {s' : AS} (h : ItAt l i rows g Bo a W) (hI : ∀ k, I k → k < W.heap.size ∧ k ≠ Bo ∧ rowOf Bo W ≠ some k) (hs : SR W.heap.size (iniOf (cxI W I) [] []) W Z c' s' a') (hS : ItS l j rows g s') :
    ItAt l j rows g Bo a' c'.w ∧ Below W.heap.size W c'.w := by
  obtain ⟨z1, z2, I', e1, e2, h3⟩ := h.ex
  have hb := below_of (c := cxI W I) hs
  have hbo : rowOf Bo c'.w = rowOf Bo W := rowOf_same (hb.block Bo h3.bo)
  have get : ∀ t fv, look s'.fr t = some fv → ∃ y, a'.tmps[t]? = some y ∧ fv.R c' y := hs.fr
  obtain ⟨u0, g0, r0⟩ := get 0 _ hS.t0
  obtain ⟨u1, g1, r1⟩ := get 1 _ hS.t1
  obtain ⟨u2, g2, r2⟩ := get 2 _ hS.t2
  obtain ⟨u4, g4, r4⟩ := get 4 _ hS.t4
  have r0 : u0 = yv l := r0.1
  have r4 : u4 = .int .i64 (j : Int) := r4.1
  subst r0 r4
  refine ⟨⟨by rw [hs.sz, hS.N], hs.df, g0, g4, u1, u2, c'.I, g1, g2, ⟨fun k hk => ⟨hs.H.Ilt k hk, ?_⟩, GlOk.of (c := c') (c' := cxI c'.w c'.I) (fun _ h => h) (fun _ _ => rfl) hs.H.gl, ⟨r1.1, r1.2⟩, ⟨r2.1, r2.2⟩, Nat.lt_of_lt_of_le h3.bo hb.size, fun r hr => Nat.lt_of_lt_of_le (h3.row r (by rw [← hbo]; exact hr)) hb.size⟩⟩, hb⟩
  rw [hbo]
  rcases hs.H.I1 k hk with h4 | h4 | ⟨j, hj, _⟩
  · exact (hI k h4).2
  · exact ⟨by have := h3.bo; omega, fun hr => by have := h3.row k hr; omega⟩
  · simp at hj
def K3 (l i : Nat) (rows : List (List Int)) (g : Int) (s : AS) : Prop := ∃ n id : Nat, IsRun rows g i n ∧ ItS l (i + n) rows g s ∧ look s.fr 5 = some (.t (.one (.ptr id 0))) ∧ look s.hp id = some (some (.var 75 [cI (shows rows i g), cI (i : Int), cI (n : Int)]))
theorem Γit : ΓOk Tryd.prog (look [(82, SpShows)]) := ΓOk.nil.cons shows_ok Tryd.func82 (by kernel_rfl)
def encR (r : Int × Nat × Nat) : Array Value := #[.agg #[.int .i64 r.1, .int .i64 (r.2.1 : Int), .int .i64 (r.2.2 : Int)]]
theorem Runs.len {rows : List (List Int)} {g : Int} : ∀ {l : List (Int × Nat × Nat)} {i j : Nat}, Runs rows g i l j → i + l.length ≤ j
  | [], i, j, h => by have h : i = j := h; simp [h]
  | r :: l, i, j, h => by
    have := Runs.len h.2.2.2
    have := h.2.2.1.pos
    rw [List.length_cons]
    omega
theorem arr69 (a : Array Value) (h : a.size = 69) : ∃ v0 v1 v2 v3 v4 v5 v6 v7 v8 v9 v10 v11 v12 v13 v14 v15 v16 v17 v18 v19 v20 v21 v22 v23 v24 v25 v26 v27 v28 v29 v30 v31 v32 v33 v34 v35 v36 v37 v38 v39 v40 v41 v42 v43 v44 v45 v46 v47 v48 v49 v50 v51 v52 v53 v54 v55 v56 v57 v58 v59 v60 v61 v62 v63 v64 v65 v66 v67 v68, a = #[v0, v1, v2, v3, v4, v5, v6, v7, v8, v9, v10, v11, v12, v13, v14, v15, v16, v17, v18, v19, v20, v21, v22, v23, v24, v25, v26, v27, v28, v29, v30, v31, v32, v33, v34, v35, v36, v37, v38, v39, v40, v41, v42, v43, v44, v45, v46, v47, v48, v49, v50, v51, v52, v53, v54, v55, v56, v57, v58, v59, v60, v61, v62, v63, v64, v65, v66, v67, v68] := by
  obtain ⟨l⟩ := a
  match l, h with
  | v0 :: v1 :: v2 :: v3 :: v4 :: v5 :: v6 :: v7 :: v8 :: v9 :: v10 :: v11 :: v12 :: v13 :: v14 :: v15 :: v16 :: v17 :: v18 :: v19 :: v20 :: v21 :: v22 :: v23 :: v24 :: v25 :: v26 :: v27 :: v28 :: v29 :: v30 :: v31 :: v32 :: v33 :: v34 :: v35 :: v36 :: v37 :: v38 :: v39 :: v40 :: v41 :: v42 :: v43 :: v44 :: v45 :: v46 :: v47 :: v48 :: v49 :: v50 :: v51 :: v52 :: v53 :: v54 :: v55 :: v56 :: v57 :: v58 :: v59 :: v60 :: v61 :: v62 :: v63 :: v64 :: v65 :: v66 :: v67 :: v68 :: [], _ => exact ⟨v0, v1, v2, v3, v4, v5, v6, v7, v8, v9, v10, v11, v12, v13, v14, v15, v16, v17, v18, v19, v20, v21, v22, v23, v24, v25, v26, v27, v28, v29, v30, v31, v32, v33, v34, v35, v36, v37, v38, v39, v40, v41, v42, v43, v44, v45, v46, v47, v48, v49, v50, v51, v52, v53, v54, v55, v56, v57, v58, v59, v60, v61, v62, v63, v64, v65, v66, v67, v68, rfl⟩
theorem runs1_in (l n Bo : Nat) (rows : List (List Int)) (g : Int) (hrl : rows.length ≤ 1000) (y1 y2 : Value) (I0 : Nat → Prop) (W0 : World) (J Jx : List (Int × Nat × Nat) → World → Prop) (hJ : AbidesFrom W0.heap.size J) (hJx : AbidesFrom W0.heap.size Jx)
    (hY : ∀ pre x W, J pre W → pre.length < rows.length → x.1 = shows rows x.2.1 g → 0 < x.2.2 → x.2.1 + x.2.2 ≤ rows.length → YieldAt Fence.wide (n - 1) Tryd.prog l (encR x) W fun e W' => (e = .returned (.bool true) ∧ J (pre ++ [x]) W' ∧ RunK Bo W W') ∨ (e = .returned (.bool false) ∧ Jx (pre ++ [x]) W'))
    (hR : Stays rows g Bo y1 y2 W0 I0) (h0 : J [] W0) :
    CallsIn Fence.wide n Tryd.prog 81 #[yv l, y1, y2] W0 fun e W' => (∃ v, e = .returned v) ∧ ((∃ xs, Runs rows g 0 xs rows.length ∧ J xs W') ∨ (∃ pre, True ∧ Jx pre W')) := by
  refine callsIn_of_wp Tryd.func81 rfl trivial ?_
  simp only [Tryd.ntmps81, List.size_toArray, List.length_cons, List.length_nil, Nat.reduceAdd, Nat.reduceSub, Array.replicate_succ, Array.replicate_zero, List.push_toArray, List.append_toArray, List.nil_append, List.cons_append]
  gi_wp2
  refine wpIn_loop (fun a W => ∃ (i : Nat) (pre : List (Int × Nat × Nat)), i ≤ rows.length ∧ Runs rows g 0 pre i ∧ J pre W ∧ ItAt l i rows g Bo a W ∧ W0.heap.size ≤ W.heap.size) (fun a _ => rows.length - (intOf (a.tmps.getD 4 undef)).toNat) ⟨0, [], Nat.zero_le _, rfl, h0, ⟨rfl, rfl, rfl, rfl, y1, y2, I0, rfl, rfl, hR⟩, Nat.le_refl _⟩ ?_
  rintro a W ⟨i, pre, hi, hruns, hJp, hIt, hsz⟩
  obtain ⟨I, hI, hsr⟩ := it_fr hIt
  obtain ⟨b, hb⟩ : ∃ b, decide ((i : Int) < (rows.length : Int)) = b := ⟨_, rfl⟩
  have wb : vB (decide ((i : Int) < (rows.length : Int))) = vB b := by rw [hb]
  cases b with
  | false =>
    have hil : i = rows.length := by have := of_decide_eq_false hb; omega
    refine partX TZok Γit mixed (c := cxI W I) (s := ⟨[(4, fI (i : Int)), (0, fY l), (1, eB0 rows), (2, eB1 g)], [], 0, 69, 0⟩) (j := 0) ?_ hsr ?_
    · repeat' (first | refine st_w 9 rfl rfl rfl rfl rfl (fun _ => rfl) wb (fun _ => rfl) ?_ | refine st_v rfl rfl rfl rfl (fun _ => rfl) rfl (fun _ => rfl) ?_ | refine st_skip rfl rfl rfl ?_ | refine st_b rfl rfl rfl rfl (fun _ => rfl) rfl (fun h1 => ?_) (fun h1 => ?_) | refine st_n rfl rfl rfl rfl (fun _ => rfl) rfl (fun _ => rfl) ?_ | refine st_s rfl rfl rfl rfl (fun _ => rfl) rfl (fun _ => rfl) ?_ | refine c_seq ?_ | refine c_region ?_ | refine c_plain rfl ?_ | refine c_drawn rfl (by kernel_rfl) ?_ | refine st_nil ?_ | refine c_norm ?_ | refine c_cret ?_ | refine c_ret ?_ | refine c_true rfl ?_ | refine c_false rfl ?_ | refine c_skip ?_ | refine c_block ?_ | refine c_bnorm ?_ | refine c_bret ?_ | refine c_bexit rfl ?_ | refine c_bpass rfl ?_ | refine c_exit ?_ | refine c_cexit ?_ | refine c_lret ?_ | refine c_lexit ?_ | refine c_scope ?_ | refine c_label ?_ | refine c_snorm ?_ | refine c_sret ?_ | refine c_sexit ?_ | fail)
      exact rfl
    rintro c1 s1 a1 hs1
    have hb1 := below_of (c := cxI W I) hs1
    exact ⟨hs1.df, .tuple #[], by simp [results, Tryd.f81, go_sem], ⟨_, rfl⟩, .inl ⟨pre, hil ▸ hruns, hJ pre W c1.w none hJp (Below.grow hb1) (fun r e => by cases e)⟩⟩
  | true =>
    have hil : i < rows.length := by have := of_decide_eq_true hb; omega
    refine part TZok Γit mixed (c := cxI W I) (s := ⟨[(4, fI (i : Int)), (0, fY l), (1, eB0 rows), (2, eB1 g)], [], 0, 69, 0⟩) (K := ItS l i rows g) ?_ hsr ?_
    · repeat' (first | refine st_w 9 rfl rfl rfl rfl rfl (fun _ => rfl) wb (fun _ => rfl) ?_ | refine st_v rfl rfl rfl rfl (fun _ => rfl) rfl (fun _ => rfl) ?_ | refine st_skip rfl rfl rfl ?_ | refine st_b rfl rfl rfl rfl (fun _ => rfl) rfl (fun h1 => ?_) (fun h1 => ?_) | refine st_n rfl rfl rfl rfl (fun _ => rfl) rfl (fun _ => rfl) ?_ | refine st_s rfl rfl rfl rfl (fun _ => rfl) rfl (fun _ => rfl) ?_ | refine c_seq ?_ | refine c_region ?_ | refine c_plain rfl ?_ | refine c_drawn rfl (by kernel_rfl) ?_ | refine st_nil ?_ | refine c_norm ?_ | refine c_cret ?_ | refine c_ret ?_ | refine c_true rfl ?_ | refine c_false rfl ?_ | refine c_skip ?_ | refine c_block ?_ | refine c_bnorm ?_ | refine c_bret ?_ | refine c_bexit rfl ?_ | refine c_bpass rfl ?_ | refine c_exit ?_ | refine c_cexit ?_ | refine c_lret ?_ | refine c_lexit ?_ | refine c_scope ?_ | refine c_label ?_ | refine c_snorm ?_ | refine c_sret ?_ | refine c_sexit ?_ | refine n_k ?_ | fail)
      exact ⟨rfl, rfl, rfl, rfl, rfl⟩
    rintro c1 s1 a1 hs1 hI1
    obtain ⟨hIt1, hb1⟩ := it_of hIt hI hs1 hI1
    have hJ1 : J pre c1.w := hJ pre W c1.w none hJp (Below.grow hb1) (fun r e => by cases e)
    have hsz1 : W0.heap.size ≤ c1.w.heap.size := Nat.le_trans hsz hb1.size
    have hmu : rows.length - (intOf (a.tmps.getD 4 undef)).toNat = rows.length - i := by
      rw [Array.getD_eq_getD_getElem?, hIt.t4]; rfl
    rw [hmu]
    clear hs1 hI1 hsr hmu
    obtain ⟨W1, hW1⟩ : ∃ W1, c1.w = W1 := ⟨_, rfl⟩
    rw [hW1] at hIt1 hb1 hJ1 hsz1 ⊢
    clear hW1
    refine wpIn_block ?_
    obtain ⟨I1, hI1, hsr1⟩ := it_fr hIt1
    refine part2 TZok Γit mixed (c := cxI W1 I1) (s := ⟨[(4, fI (i : Int)), (0, fY l), (1, eB0 rows), (2, eB1 g)], [], 0, 69, 0⟩) (K := K3 l i rows g) ?_ hsr1 ?_
    · have hsh0 : ∀ m, i + m < rows.length → ∃ b, (shows rows (i + m) g == shows rows i g) = b := fun m _ => ⟨_, rfl⟩
      repeat' (first | refine st_v rfl rfl rfl rfl (fun _ => rfl) rfl (fun _ => rfl) ?_ | refine st_skip rfl rfl rfl ?_ | refine st_b rfl rfl rfl rfl (fun _ => rfl) rfl (fun h1 => ?_) (fun h1 => ?_) | refine st_n rfl rfl rfl rfl (fun _ => rfl) rfl (fun _ => rfl) ?_ | refine st_s rfl rfl rfl rfl (fun _ => rfl) rfl (fun _ => rfl) ?_ | refine c_seq ?_ | refine c_region ?_ | refine c_plain rfl ?_ | refine c_drawn rfl (by kernel_rfl) ?_ | refine st_nil ?_ | refine c_norm ?_ | refine c_cret ?_ | refine c_ret ?_ | refine c_true rfl ?_ | refine c_false rfl ?_ | refine c_skip ?_ | refine c_block ?_ | refine c_bnorm ?_ | refine c_bret ?_ | refine c_bexit rfl ?_ | refine c_bpass rfl ?_ | refine c_exit ?_ | refine c_cexit ?_ | refine c_lret ?_ | refine c_lexit ?_ | refine c_scope ?_ | refine c_label ?_ | refine c_snorm ?_ | refine c_sret ?_ | refine c_sexit ?_ | refine st_call rfl rfl rfl rfl rfl rfl rfl (call_v (fI (shows rows i g)) rfl ⟨rows, i, g, rfl, rfl⟩ rfl rfl rfl (cb_v rfl (fun _ => rfl) ?_)) | refine st_pv rfl rfl rfl rfl (fun _ => rfl) (show 0 ≤ (i : Int) ∧ (i : Int) < (rows.length : Int) by omega) rfl (fun _ => rfl) ?_ | refine n_k ?_ | fail)
      refine c_loop (fun m : Nat => i + m ≤ rows.length ∧ ∀ k, k < m → same rows g (i + k) i) (fun m => [(4, fI ((i + m : Nat) : Int)), (0, fY l), (1, eB0 rows), (2, eB1 g), (5, pt 0)]) (fun m => [(0, some (.var 75 [cI (shows rows i g), cI (i : Int), cI (m : Int)]))]) (fun m => rows.length - i - m) [8] 0 ⟨by omega, fun k hk => absurd hk (Nat.not_lt_zero k)⟩ rfl ⟨rfl, rfl, rfl, rfl, rfl, rfl, rfl, rfl, rfl, rfl, trivial⟩ ⟨⟨rfl, rfl, rfl⟩, trivial⟩ rfl (fun m hm => ?_)
      obtain ⟨hm, hall⟩ := hm
      by_cases hjl : i + m < rows.length
      case neg =>
        have wt : vB (decide (((i + m : Nat) : Int) < (rows.length : Int))) = vB false := by rw [decide_eq_false (by omega)]
        repeat' (first | refine st_w 21 rfl rfl rfl rfl rfl (fun _ => rfl) wt (fun _ => rfl) ?_ | refine st_v rfl rfl rfl rfl (fun _ => rfl) rfl (fun _ => rfl) ?_ | refine st_skip rfl rfl rfl ?_ | refine st_b rfl rfl rfl rfl (fun _ => rfl) rfl (fun h1 => ?_) (fun h1 => ?_) | refine st_n rfl rfl rfl rfl (fun _ => rfl) rfl (fun _ => rfl) ?_ | refine st_s rfl rfl rfl rfl (fun _ => rfl) rfl (fun _ => rfl) ?_ | refine c_seq ?_ | refine c_region ?_ | refine c_plain rfl ?_ | refine c_drawn rfl (by kernel_rfl) ?_ | refine st_nil ?_ | refine c_norm ?_ | refine c_cret ?_ | refine c_ret ?_ | refine c_true rfl ?_ | refine c_false rfl ?_ | refine c_skip ?_ | refine c_block ?_ | refine c_bnorm ?_ | refine c_bret ?_ | refine c_bexit rfl ?_ | refine c_bpass rfl ?_ | refine c_exit ?_ | refine c_cexit ?_ | refine c_lret ?_ | refine c_lexit ?_ | refine c_scope ?_ | refine c_label ?_ | refine c_snorm ?_ | refine c_sret ?_ | refine c_sexit ?_ | refine n_k ?_ | fail)
        exact ⟨m, _, ⟨by omega, by omega, hall, .inl (by omega)⟩, ⟨rfl, rfl, rfl, rfl, rfl⟩, rfl, rfl⟩
      have wt : vB (decide (((i + m : Nat) : Int) < (rows.length : Int))) = vB true := by rw [decide_eq_true (by omega)]
      have w1 : vI .i64 (IntKind.i64.wrap (((i + m : Nat) : Int) + 1)) = fI ((i + (m + 1) : Nat) : Int) := vI_eq ((St.wr64 (by omega) (by omega)).trans (by omega))
      have w2 : vI .i64 (IntKind.i64.wrap ((m : Int) + 1)) = fI ((m + 1 : Nat) : Int) := vI_eq ((St.wr64 (by omega) (by omega)).trans (by omega))
      have hgo : same rows g (i + m) i → i + (m + 1) ≤ rows.length ∧ ∀ k, k < m + 1 → same rows g (i + k) i := fun hs => ⟨by omega, fun k hk => if e : k = m then by rw [e]; exact hs else hall k (by omega)⟩
      have hmp : ¬ same rows g (i + m) i → 0 < m := fun hs => Nat.pos_of_ne_zero fun e => hs (by rw [e]; exact ⟨rfl, rfl⟩)
      cases hsh : (shows rows (i + m) g == shows rows i g) with
      | false =>
        have hns : ¬ same rows g (i + m) i := fun hs => by have := beq_eq_false_iff_ne.1 hsh; exact this hs.1
        have wq : vB (shows rows (i + m) g == shows rows i g) = vB false := by rw [hsh]
        repeat' (first | refine st_w 21 rfl rfl rfl rfl rfl (fun _ => rfl) wt (fun _ => rfl) ?_ | refine st_w 31 rfl rfl rfl rfl rfl (fun _ => rfl) wq (fun _ => rfl) ?_ | refine st_v rfl rfl rfl rfl (fun _ => rfl) rfl (fun _ => rfl) ?_ | refine st_skip rfl rfl rfl ?_ | refine st_b rfl rfl rfl rfl (fun _ => rfl) rfl (fun h1 => ?_) (fun h1 => ?_) | refine st_n rfl rfl rfl rfl (fun _ => rfl) rfl (fun _ => rfl) ?_ | refine st_s rfl rfl rfl rfl (fun _ => rfl) rfl (fun _ => rfl) ?_ | refine c_seq ?_ | refine c_region ?_ | refine c_plain rfl ?_ | refine c_drawn rfl (by kernel_rfl) ?_ | refine st_nil ?_ | refine c_norm ?_ | refine c_cret ?_ | refine c_ret ?_ | refine c_true rfl ?_ | refine c_false rfl ?_ | refine c_skip ?_ | refine c_block ?_ | refine c_bnorm ?_ | refine c_bret ?_ | refine c_bexit rfl ?_ | refine c_bpass rfl ?_ | refine c_exit ?_ | refine c_cexit ?_ | refine c_lret ?_ | refine c_lexit ?_ | refine c_scope ?_ | refine c_label ?_ | refine c_snorm ?_ | refine c_sret ?_ | refine c_sexit ?_ | refine st_call rfl rfl rfl rfl rfl rfl rfl (call_v (fI (shows rows (i + m) g)) rfl ⟨rows, i + m, g, rfl, rfl⟩ rfl rfl rfl (cb_v rfl (fun _ => rfl) ?_)) | refine st_pv rfl rfl rfl rfl (fun _ => rfl) (show 0 ≤ ((i + m : Nat) : Int) ∧ ((i + m : Nat) : Int) < (rows.length : Int) by omega) rfl (fun _ => rfl) ?_ | refine st_pv rfl rfl rfl rfl (fun _ => rfl) (show 0 ≤ (i : Int) ∧ (i : Int) < (rows.length : Int) by omega) rfl (fun _ => rfl) ?_ | refine n_k ?_ | fail)
        exact ⟨m, _, ⟨hmp hns, by omega, hall, .inr hns⟩, ⟨rfl, rfl, rfl, rfl, rfl⟩, rfl, rfl⟩
      | true =>
        have hsh := beq_iff_eq.1 hsh
        have wq : vB (shows rows (i + m) g == shows rows i g) = vB true := by rw [hsh]; simp
        by_cases hg : 0 ≤ g
        case neg =>
          have wg : vB (decide (g ≥ 0)) = vB false := by rw [decide_eq_false hg]
          have hs : same rows g (i + m) i := ⟨hsh, by unfold inR; rw [decide_eq_false (fun hx => hg hx.1), decide_eq_false (fun hx => hg hx.1)]⟩
          repeat' (first | refine st_w 21 rfl rfl rfl rfl rfl (fun _ => rfl) wt (fun _ => rfl) ?_ | refine st_w 31 rfl rfl rfl rfl rfl (fun _ => rfl) wq (fun _ => rfl) ?_ | refine st_w 35 rfl rfl rfl rfl rfl (fun _ => rfl) wg (fun _ => rfl) ?_ | refine st_w 46 rfl rfl rfl rfl rfl (fun _ => rfl) wg (fun _ => rfl) ?_ | refine st_w 60 rfl rfl rfl rfl rfl (fun _ => rfl) w1 (fun _ => rfl) ?_ | refine st_w 63 rfl rfl rfl rfl rfl (fun _ => rfl) w2 (fun _ => rfl) ?_ | refine st_v rfl rfl rfl rfl (fun _ => rfl) rfl (fun _ => rfl) ?_ | refine st_skip rfl rfl rfl ?_ | refine st_b rfl rfl rfl rfl (fun _ => rfl) rfl (fun h1 => ?_) (fun h1 => ?_) | refine st_n rfl rfl rfl rfl (fun _ => rfl) rfl (fun _ => rfl) ?_ | refine st_s rfl rfl rfl rfl (fun _ => rfl) rfl (fun _ => rfl) ?_ | refine c_seq ?_ | refine c_region ?_ | refine c_plain rfl ?_ | refine c_drawn rfl (by kernel_rfl) ?_ | refine st_nil ?_ | refine c_norm ?_ | refine c_cret ?_ | refine c_ret ?_ | refine c_true rfl ?_ | refine c_false rfl ?_ | refine c_skip ?_ | refine c_block ?_ | refine c_bnorm ?_ | refine c_bret ?_ | refine c_bexit rfl ?_ | refine c_bpass rfl ?_ | refine c_exit ?_ | refine c_cexit ?_ | refine c_lret ?_ | refine c_lexit ?_ | refine c_scope ?_ | refine c_label ?_ | refine c_snorm ?_ | refine c_sret ?_ | refine c_sexit ?_ | refine st_call rfl rfl rfl rfl rfl rfl rfl (call_v (fI (shows rows (i + m) g)) rfl ⟨rows, i + m, g, rfl, rfl⟩ rfl rfl rfl (cb_v rfl (fun _ => rfl) ?_)) | refine st_pv rfl rfl rfl rfl (fun _ => rfl) (show 0 ≤ ((i + m : Nat) : Int) ∧ ((i + m : Nat) : Int) < (rows.length : Int) by omega) rfl (fun _ => rfl) ?_ | refine st_pv rfl rfl rfl rfl (fun _ => rfl) (show 0 ≤ (i : Int) ∧ (i : Int) < (rows.length : Int) by omega) rfl (fun _ => rfl) ?_ | refine n_k ?_ | fail)
          exact c_lnorm [0] (m + 1) (hgo hs) (by show rows.length - i - (m + 1) < rows.length - i - m; omega) rfl ⟨rfl, rfl, rfl, rfl, rfl, rfl, rfl, rfl, rfl, rfl, trivial⟩ ⟨⟨rfl, rfl, rfl⟩, trivial⟩ rfl
        have wg : vB (decide (g ≥ 0)) = vB true := by rw [decide_eq_true hg]
        have in_ : ∀ k b, decide (g < ((rows.getD k []).length : Int)) = b → inR rows k g = b := fun k b hb => by unfold inR; rw [← hb, decide_eq_decide]; exact ⟨fun h => h.2, fun h => ⟨hg, h⟩⟩
        cases hp : decide (g < ((rows.getD (i + m) []).length : Int)) with
        | false =>
          cases hq : decide (g < ((rows.getD i []).length : Int)) with
          | false =>
            have v1 : vB (decide (g < ((rows.getD (i + m) []).length : Int))) = vB false := by rw [hp]
            have v2 : vB (decide (g < ((rows.getD i []).length : Int))) = vB false := by rw [hq]
            repeat' (first | refine st_w 21 rfl rfl rfl rfl rfl (fun _ => rfl) wt (fun _ => rfl) ?_ | refine st_w 31 rfl rfl rfl rfl rfl (fun _ => rfl) wq (fun _ => rfl) ?_ | refine st_w 35 rfl rfl rfl rfl rfl (fun _ => rfl) wg (fun _ => rfl) ?_ | refine st_w 46 rfl rfl rfl rfl rfl (fun _ => rfl) wg (fun _ => rfl) ?_ | refine st_w 43 rfl rfl rfl rfl rfl (fun _ => rfl) v1 (fun _ => rfl) ?_ | refine st_w 55 rfl rfl rfl rfl rfl (fun _ => rfl) v2 (fun _ => rfl) ?_ | refine st_w 60 rfl rfl rfl rfl rfl (fun _ => rfl) w1 (fun _ => rfl) ?_ | refine st_w 63 rfl rfl rfl rfl rfl (fun _ => rfl) w2 (fun _ => rfl) ?_ | refine st_v rfl rfl rfl rfl (fun _ => rfl) rfl (fun _ => rfl) ?_ | refine st_skip rfl rfl rfl ?_ | refine st_b rfl rfl rfl rfl (fun _ => rfl) rfl (fun h1 => ?_) (fun h1 => ?_) | refine st_n rfl rfl rfl rfl (fun _ => rfl) rfl (fun _ => rfl) ?_ | refine st_s rfl rfl rfl rfl (fun _ => rfl) rfl (fun _ => rfl) ?_ | refine c_seq ?_ | refine c_region ?_ | refine c_plain rfl ?_ | refine c_drawn rfl (by kernel_rfl) ?_ | refine st_nil ?_ | refine c_norm ?_ | refine c_cret ?_ | refine c_ret ?_ | refine c_true rfl ?_ | refine c_false rfl ?_ | refine c_skip ?_ | refine c_block ?_ | refine c_bnorm ?_ | refine c_bret ?_ | refine c_bexit rfl ?_ | refine c_bpass rfl ?_ | refine c_exit ?_ | refine c_cexit ?_ | refine c_lret ?_ | refine c_lexit ?_ | refine c_scope ?_ | refine c_label ?_ | refine c_snorm ?_ | refine c_sret ?_ | refine c_sexit ?_ | refine st_call rfl rfl rfl rfl rfl rfl rfl (call_v (fI (shows rows (i + m) g)) rfl ⟨rows, i + m, g, rfl, rfl⟩ rfl rfl rfl (cb_v rfl (fun _ => rfl) ?_)) | refine st_pv rfl rfl rfl rfl (fun _ => rfl) (show 0 ≤ ((i + m : Nat) : Int) ∧ ((i + m : Nat) : Int) < (rows.length : Int) by omega) rfl (fun _ => rfl) ?_ | refine st_pv rfl rfl rfl rfl (fun _ => rfl) (show 0 ≤ (i : Int) ∧ (i : Int) < (rows.length : Int) by omega) rfl (fun _ => rfl) ?_ | refine n_k ?_ | fail)
            exact c_lnorm [0] (m + 1) (hgo ⟨hsh, (in_ _ _ hp).trans (in_ _ _ hq).symm⟩) (by show rows.length - i - (m + 1) < rows.length - i - m; omega) rfl ⟨rfl, rfl, rfl, rfl, rfl, rfl, rfl, rfl, rfl, rfl, trivial⟩ ⟨⟨rfl, rfl, rfl⟩, trivial⟩ rfl
          | true =>
            have v1 : vB (decide (g < ((rows.getD (i + m) []).length : Int))) = vB false := by rw [hp]
            have v2 : vB (decide (g < ((rows.getD i []).length : Int))) = vB true := by rw [hq]
            repeat' (first | refine st_w 21 rfl rfl rfl rfl rfl (fun _ => rfl) wt (fun _ => rfl) ?_ | refine st_w 31 rfl rfl rfl rfl rfl (fun _ => rfl) wq (fun _ => rfl) ?_ | refine st_w 35 rfl rfl rfl rfl rfl (fun _ => rfl) wg (fun _ => rfl) ?_ | refine st_w 46 rfl rfl rfl rfl rfl (fun _ => rfl) wg (fun _ => rfl) ?_ | refine st_w 43 rfl rfl rfl rfl rfl (fun _ => rfl) v1 (fun _ => rfl) ?_ | refine st_w 55 rfl rfl rfl rfl rfl (fun _ => rfl) v2 (fun _ => rfl) ?_ | refine st_w 60 rfl rfl rfl rfl rfl (fun _ => rfl) w1 (fun _ => rfl) ?_ | refine st_w 63 rfl rfl rfl rfl rfl (fun _ => rfl) w2 (fun _ => rfl) ?_ | refine st_v rfl rfl rfl rfl (fun _ => rfl) rfl (fun _ => rfl) ?_ | refine st_skip rfl rfl rfl ?_ | refine st_b rfl rfl rfl rfl (fun _ => rfl) rfl (fun h1 => ?_) (fun h1 => ?_) | refine st_n rfl rfl rfl rfl (fun _ => rfl) rfl (fun _ => rfl) ?_ | refine st_s rfl rfl rfl rfl (fun _ => rfl) rfl (fun _ => rfl) ?_ | refine c_seq ?_ | refine c_region ?_ | refine c_plain rfl ?_ | refine c_drawn rfl (by kernel_rfl) ?_ | refine st_nil ?_ | refine c_norm ?_ | refine c_cret ?_ | refine c_ret ?_ | refine c_true rfl ?_ | refine c_false rfl ?_ | refine c_skip ?_ | refine c_block ?_ | refine c_bnorm ?_ | refine c_bret ?_ | refine c_bexit rfl ?_ | refine c_bpass rfl ?_ | refine c_exit ?_ | refine c_cexit ?_ | refine c_lret ?_ | refine c_lexit ?_ | refine c_scope ?_ | refine c_label ?_ | refine c_snorm ?_ | refine c_sret ?_ | refine c_sexit ?_ | refine st_call rfl rfl rfl rfl rfl rfl rfl (call_v (fI (shows rows (i + m) g)) rfl ⟨rows, i + m, g, rfl, rfl⟩ rfl rfl rfl (cb_v rfl (fun _ => rfl) ?_)) | refine st_pv rfl rfl rfl rfl (fun _ => rfl) (show 0 ≤ ((i + m : Nat) : Int) ∧ ((i + m : Nat) : Int) < (rows.length : Int) by omega) rfl (fun _ => rfl) ?_ | refine st_pv rfl rfl rfl rfl (fun _ => rfl) (show 0 ≤ (i : Int) ∧ (i : Int) < (rows.length : Int) by omega) rfl (fun _ => rfl) ?_ | refine n_k ?_ | fail)
            have hns : ¬ same rows g (i + m) i := fun hs => by have := hs.2; rw [in_ _ _ hp, in_ _ _ hq] at this; cases this
            exact ⟨m, _, ⟨hmp hns, by omega, hall, .inr hns⟩, ⟨rfl, rfl, rfl, rfl, rfl⟩, rfl, rfl⟩
        | true =>
          cases hq : decide (g < ((rows.getD i []).length : Int)) with
          | false =>
            have v1 : vB (decide (g < ((rows.getD (i + m) []).length : Int))) = vB true := by rw [hp]
            have v2 : vB (decide (g < ((rows.getD i []).length : Int))) = vB false := by rw [hq]
            repeat' (first | refine st_w 21 rfl rfl rfl rfl rfl (fun _ => rfl) wt (fun _ => rfl) ?_ | refine st_w 31 rfl rfl rfl rfl rfl (fun _ => rfl) wq (fun _ => rfl) ?_ | refine st_w 35 rfl rfl rfl rfl rfl (fun _ => rfl) wg (fun _ => rfl) ?_ | refine st_w 46 rfl rfl rfl rfl rfl (fun _ => rfl) wg (fun _ => rfl) ?_ | refine st_w 43 rfl rfl rfl rfl rfl (fun _ => rfl) v1 (fun _ => rfl) ?_ | refine st_w 55 rfl rfl rfl rfl rfl (fun _ => rfl) v2 (fun _ => rfl) ?_ | refine st_w 60 rfl rfl rfl rfl rfl (fun _ => rfl) w1 (fun _ => rfl) ?_ | refine st_w 63 rfl rfl rfl rfl rfl (fun _ => rfl) w2 (fun _ => rfl) ?_ | refine st_v rfl rfl rfl rfl (fun _ => rfl) rfl (fun _ => rfl) ?_ | refine st_skip rfl rfl rfl ?_ | refine st_b rfl rfl rfl rfl (fun _ => rfl) rfl (fun h1 => ?_) (fun h1 => ?_) | refine st_n rfl rfl rfl rfl (fun _ => rfl) rfl (fun _ => rfl) ?_ | refine st_s rfl rfl rfl rfl (fun _ => rfl) rfl (fun _ => rfl) ?_ | refine c_seq ?_ | refine c_region ?_ | refine c_plain rfl ?_ | refine c_drawn rfl (by kernel_rfl) ?_ | refine st_nil ?_ | refine c_norm ?_ | refine c_cret ?_ | refine c_ret ?_ | refine c_true rfl ?_ | refine c_false rfl ?_ | refine c_skip ?_ | refine c_block ?_ | refine c_bnorm ?_ | refine c_bret ?_ | refine c_bexit rfl ?_ | refine c_bpass rfl ?_ | refine c_exit ?_ | refine c_cexit ?_ | refine c_lret ?_ | refine c_lexit ?_ | refine c_scope ?_ | refine c_label ?_ | refine c_snorm ?_ | refine c_sret ?_ | refine c_sexit ?_ | refine st_call rfl rfl rfl rfl rfl rfl rfl (call_v (fI (shows rows (i + m) g)) rfl ⟨rows, i + m, g, rfl, rfl⟩ rfl rfl rfl (cb_v rfl (fun _ => rfl) ?_)) | refine st_pv rfl rfl rfl rfl (fun _ => rfl) (show 0 ≤ ((i + m : Nat) : Int) ∧ ((i + m : Nat) : Int) < (rows.length : Int) by omega) rfl (fun _ => rfl) ?_ | refine st_pv rfl rfl rfl rfl (fun _ => rfl) (show 0 ≤ (i : Int) ∧ (i : Int) < (rows.length : Int) by omega) rfl (fun _ => rfl) ?_ | refine n_k ?_ | fail)
            have hns : ¬ same rows g (i + m) i := fun hs => by have := hs.2; rw [in_ _ _ hp, in_ _ _ hq] at this; cases this
            exact ⟨m, _, ⟨hmp hns, by omega, hall, .inr hns⟩, ⟨rfl, rfl, rfl, rfl, rfl⟩, rfl, rfl⟩
          | true =>
            have v1 : vB (decide (g < ((rows.getD (i + m) []).length : Int))) = vB true := by rw [hp]
            have v2 : vB (decide (g < ((rows.getD i []).length : Int))) = vB true := by rw [hq]
            repeat' (first | refine st_w 21 rfl rfl rfl rfl rfl (fun _ => rfl) wt (fun _ => rfl) ?_ | refine st_w 31 rfl rfl rfl rfl rfl (fun _ => rfl) wq (fun _ => rfl) ?_ | refine st_w 35 rfl rfl rfl rfl rfl (fun _ => rfl) wg (fun _ => rfl) ?_ | refine st_w 46 rfl rfl rfl rfl rfl (fun _ => rfl) wg (fun _ => rfl) ?_ | refine st_w 43 rfl rfl rfl rfl rfl (fun _ => rfl) v1 (fun _ => rfl) ?_ | refine st_w 55 rfl rfl rfl rfl rfl (fun _ => rfl) v2 (fun _ => rfl) ?_ | refine st_w 60 rfl rfl rfl rfl rfl (fun _ => rfl) w1 (fun _ => rfl) ?_ | refine st_w 63 rfl rfl rfl rfl rfl (fun _ => rfl) w2 (fun _ => rfl) ?_ | refine st_v rfl rfl rfl rfl (fun _ => rfl) rfl (fun _ => rfl) ?_ | refine st_skip rfl rfl rfl ?_ | refine st_b rfl rfl rfl rfl (fun _ => rfl) rfl (fun h1 => ?_) (fun h1 => ?_) | refine st_n rfl rfl rfl rfl (fun _ => rfl) rfl (fun _ => rfl) ?_ | refine st_s rfl rfl rfl rfl (fun _ => rfl) rfl (fun _ => rfl) ?_ | refine c_seq ?_ | refine c_region ?_ | refine c_plain rfl ?_ | refine c_drawn rfl (by kernel_rfl) ?_ | refine st_nil ?_ | refine c_norm ?_ | refine c_cret ?_ | refine c_ret ?_ | refine c_true rfl ?_ | refine c_false rfl ?_ | refine c_skip ?_ | refine c_block ?_ | refine c_bnorm ?_ | refine c_bret ?_ | refine c_bexit rfl ?_ | refine c_bpass rfl ?_ | refine c_exit ?_ | refine c_cexit ?_ | refine c_lret ?_ | refine c_lexit ?_ | refine c_scope ?_ | refine c_label ?_ | refine c_snorm ?_ | refine c_sret ?_ | refine c_sexit ?_ | refine st_call rfl rfl rfl rfl rfl rfl rfl (call_v (fI (shows rows (i + m) g)) rfl ⟨rows, i + m, g, rfl, rfl⟩ rfl rfl rfl (cb_v rfl (fun _ => rfl) ?_)) | refine st_pv rfl rfl rfl rfl (fun _ => rfl) (show 0 ≤ ((i + m : Nat) : Int) ∧ ((i + m : Nat) : Int) < (rows.length : Int) by omega) rfl (fun _ => rfl) ?_ | refine st_pv rfl rfl rfl rfl (fun _ => rfl) (show 0 ≤ (i : Int) ∧ (i : Int) < (rows.length : Int) by omega) rfl (fun _ => rfl) ?_ | refine n_k ?_ | fail)
            exact c_lnorm [0] (m + 1) (hgo ⟨hsh, (in_ _ _ hp).trans (in_ _ _ hq).symm⟩) (by show rows.length - i - (m + 1) < rows.length - i - m; omega) rfl ⟨rfl, rfl, rfl, rfl, rfl, rfl, rfl, rfl, rfl, rfl, trivial⟩ ⟨⟨rfl, rfl, rfl⟩, trivial⟩ rfl
    rintro c2 s2 a2 hs2 ⟨m, id, hrun, hS2, h5, hbk⟩
    obtain ⟨hIt2, hb2⟩ := it_of hIt1 hI1 hs2 hS2
    have hJ2 : J pre c2.w := hJ pre W1 c2.w none hJ1 (Below.grow hb2) (fun r e => by cases e)
    have hsz2 : W0.heap.size ≤ c2.w.heap.size := Nat.le_trans hsz1 hb2.size
    obtain ⟨y5, g5, ⟨b5, r5, rfl⟩, -⟩ := hs2.fr 5 _ h5
    obtain ⟨b6, us, r6, hc6, hall⟩ := hs2.H.blk id _ hbk
    have : b6 = b5 := by
      have e := r6.symm.trans r5
      injection e with e; injection e with e; injection e with e; injection e
    subst this
    obtain ⟨u0, u1, u2, rfl⟩ : ∃ u0 u1 u2, us = [u0, u1, u2] := by
      match us, hall with
      | [u0, u1, u2], _ => exact ⟨u0, u1, u2, rfl⟩
    obtain ⟨⟨hu0, -⟩, ⟨hu1, -⟩, ⟨hu2, -⟩, -⟩ := hall
    have hu0 : u0 = .int .i64 (shows rows i g) := hu0
    have hu1 : u1 = .int .i64 (i : Int) := hu1
    have hu2 : u2 = .int .i64 (m : Int) := hu2
    subst hu0 hu1 hu2
    obtain ⟨W2, hW2⟩ : ∃ W2, c2.w = W2 := ⟨_, rfl⟩
    rw [hW2] at hIt2 hb2 hJ2 hsz2 hc6 ⊢
    clear hs2 hS2 h5 hbk r5 r6 hW2 hsr1 hI1
    have hpl := Runs.len hruns
    obtain ⟨fn, tmps, assign, body, hy, hRd⟩ := hY pre (shows rows i g, i, m) W2 hJ2 (by omega) rfl hrun.pos hrun.le
    obtain ⟨hsz69, hdf, ht0, ht4, y1, y2, I2, ht1, ht2, hst⟩ := hIt2
    have hrl2 := hrun.le
    have hrp := hrun.pos
    obtain ⟨at2, ad2⟩ := a2
    obtain ⟨v0, v1, v2, v3, v4, v5, v6, v7, v8, v9, v10, v11, v12, v13, v14, v15, v16, v17, v18, v19, v20, v21, v22, v23, v24, v25, v26, v27, v28, v29, v30, v31, v32, v33, v34, v35, v36, v37, v38, v39, v40, v41, v42, v43, v44, v45, v46, v47, v48, v49, v50, v51, v52, v53, v54, v55, v56, v57, v58, v59, v60, v61, v62, v63, v64, v65, v66, v67, v68, rfl⟩ := arr69 at2 hsz69
    have hdf : ad2 = [] := hdf
    subst hdf
    have e0 : v0 = yv l := Option.some.inj ht0
    have e1 : v1 = y1 := Option.some.inj ht1
    have e2 : v2 = y2 := Option.some.inj ht2
    have e4 : v4 = .int .i64 ((i + m : Nat) : Int) := Option.some.inj ht4
    have e5 : v5 = .pointer (some ⟨b6, 0, none⟩) := Option.some.inj g5
    subst e0 e1 e2 e4 e5
    have q0 : W2.cell? ⟨b6, 0, none⟩ = some (.int .i64 (shows rows i g)) := by simp [World.cell?, hc6]
    have q1 : W2.cell? ⟨b6, 1, none⟩ = some (.int .i64 (i : Int)) := by simp [World.cell?, hc6]
    have q2 : W2.cell? ⟨b6, 2, none⟩ = some (.int .i64 (m : Int)) := by simp [World.cell?, hc6]
    clear ht0 ht1 ht2 ht4 g5 hsz69 hc6
    have hu75 := Tryd.underlying75
    unfold yv
    unfold encR at hy
    dsimp only at hy
    gi_wp2
    refine ⟨fun h => by simp [Fence.wide] at h, hRd.mono ?_⟩
    rintro e W' (⟨rfl, hJ', hk⟩ | ⟨rfl, hJx'⟩)
    · gi_wp2
      refine ⟨⟨i + m, pre ++ [(shows rows i g, i, m)], hrl2, hruns.snoc hrun, hJ', ⟨rfl, rfl, rfl, rfl, v1, v2, I2, rfl, rfl, hst.keep hk⟩, Nat.le_trans hsz2 hk.size⟩, ?_⟩
      show rows.length - ((i + m : Nat) : Int).toNat < rows.length - i
      rw [Int.toNat_natCast]
      omega
    · gi_wp2
      exact ⟨rfl, .tuple #[], by simp [results, Tryd.f81, go_sem], ⟨_, rfl⟩, .inr ⟨_, trivial, hJx'⟩⟩
end Tr
end Go.Proofs.YtpciieagafddcaaDoor.E
