/- Rows of lamps that are looked at: how long runs are (own text). -/
import Derived.Test.YtpciieagafddcaaDoorQiET7
import Derived.Maps.AppendAt
import Derived.Sort.QuietIn
import Derived.BigGuardIn
import Derived.Test.YtpciieagafddcaaDoorQiF2
namespace Go.Proofs.YtpciieagafddcaaDoor.E
open Go Go.RowKit Go.Proofs Go.Proofs.YtpciieagafddcaaDoorW.PrintWords Go.Proofs.YtpciieagafddcaaDoorW.PrintLast Go.Proofs.YtpciieagafddcaaDoorW.PrintMore Go.Proofs.YtpciieagafddcaaDoor.F
open Go.Shelf
set_option linter.unusedVariables false
set_option linter.unusedSimpArgs false
set_option maxRecDepth 100000
set_option maxHeartbeats 8000000
attribute [local go_sem] Oper.semAt_some
attribute [local irreducible] acode callR
namespace Tr
open St Rw
open PX (cell)
open PY (inR shows same IsRun Runs hitR longS longB flush)
/-- A run, as the iterator hands it on. -/
abbrev RunT (rows : List (List Int)) (g : Int) : Type := { r : Int × Nat × Nat // r.1 = shows rows r.2.1 g ∧ 0 < r.2.2 ∧ r.2.1 + r.2.2 ≤ rows.length }
def vals {rows : List (List Int)} {g : Int} (l : List (RunT rows g)) : List (Int × Nat × Nat) := l.map Subtype.val
theorem runs_stops (n Bo : Nat) (rows : List (List Int)) (g : Int) (hrl : rows.length ≤ 1000) (y1 y2 : Value) (I0 : Nat → Prop) (w : World) (hS : Stays rows g Bo y1 y2 w I0) :
    SeqStopsK Fence.wide n Tryd.prog 81 #[y1, y2] (fun r : RunT rows g => #[.agg #[.int .i64 r.1.1, .int .i64 (r.1.2.1 : Int), .int .i64 (r.1.2.2 : Int)]]) (RunK Bo) (fun xs => Runs rows g 0 (vals xs) rows.length) (fun _ => True) rows.length w := by
  intro l J Jx W hW hJ hJx hY h0
  have hSW : Stays rows g Bo y1 y2 W I0 := hS.keep (RunK.of_below hW hS.bo)
  refine (runs1_in l n Bo rows g hrl y1 y2 I0 W (fun pre W => ∃ p' : List (RunT rows g), vals p' = pre ∧ J p' W) (fun pre W => ∃ p' : List (RunT rows g), vals p' = pre ∧ Jx p' W) (fun s A B row hs hg hr => ?_) (fun s A B row hs hg hr => ?_) ?_ hSW ⟨[], rfl, h0⟩).mono ?_
  · obtain ⟨p', e, h⟩ := hs
    exact ⟨p', e, hJ p' A B row h hg hr⟩
  · obtain ⟨p', e, h⟩ := hs
    exact ⟨p', e, hJx p' A B row h hg hr⟩
  · rintro pre x W1 ⟨p', rfl, hj⟩ hlen hx1 hx2 hx3
    have hl : p'.length < rows.length := by simpa [vals] using hlen
    obtain ⟨fn, tmps, assign, body, h1, h2⟩ := hY p' ⟨x, hx1, hx2, hx3⟩ W1 hj hl
    refine ⟨fn, tmps, assign, body, h1, h2.mono ?_⟩
    rintro e W' (⟨rfl, h3, h4⟩ | ⟨rfl, h3⟩)
    · exact .inl ⟨rfl, ⟨_, by simp [vals], h3⟩, h4⟩
    · exact .inr ⟨rfl, _, by simp [vals], h3⟩
  · rintro e W' ⟨hv, ⟨xs, hr, p', rfl, hj⟩ | ⟨pre, _, p', rfl, hj⟩⟩
    · exact ⟨hv, .inl ⟨p', hr, hj⟩⟩
    · exact ⟨hv, .inr ⟨p', trivial, hj⟩⟩
/-- The iterator's maker. -/
theorem runs_in (n : Nat) (A0 : Option Addr) (k0 c0 : Nat) (g : Int) (w : World) : CallsIn Fence.wide n Tryd.prog 45 #[.slice A0 k0 c0, .int .i64 g] w fun e w' => e = .returned (.func (.func 81) #[] #[.pointer (some ⟨w.heap.size, 0, none⟩), .pointer (some ⟨w.heap.size + 1, 0, none⟩)]) ∧ w' = (w.alloc (.cells #[.slice A0 k0 c0] 26)).alloc (.cells #[.int .i64 g] 3) := by
  refine callsIn_of_wp Tryd.func45 rfl trivial ?_
  simp only [Tryd.ntmps45, List.size_toArray, List.length_cons, List.length_nil, Nat.reduceAdd, Nat.reduceSub, Array.replicate_succ, Array.replicate_zero, List.push_toArray, List.append_toArray, List.nil_append, List.cons_append]
  gi_wp2
  go_ret
  exact ⟨rfl, rfl⟩
/-- What has been put down. -/
def outP (rows : List (List Int)) (g x : Int) (l : List (RunT rows g)) : List Int := (l.filter fun r => hitR rows g x r.1.2.1).map fun r => (r.1.2.2 : Int)
theorem outP_eq {rows : List (List Int)} {g x : Int} : ∀ (n : Nat) {l : List (RunT rows g)} {j : Nat}, l.length = n → Runs rows g 0 (vals l) j → outP rows g x l = flush (longS rows g x j)
  | 0, l, j, hl, h => by
    obtain rfl := List.eq_nil_of_length_eq_zero hl
    have h : 0 = j := h
    subst h
    rfl
  | n + 1, l, j, hl, h => by
    rcases List.eq_nil_or_concat l with rfl | ⟨l', r, rfl⟩
    · cases hl
    · rw [List.concat_eq_append] at hl h ⊢
      have h : Runs rows g 0 (vals l' ++ [r.1]) j := by simpa [vals] using h
      obtain ⟨h1, h2, h3, rfl⟩ := PY.Runs.last h
      rw [PY.long_run h1 h3, ← outP_eq n (by simpa using hl) h1]
      unfold outP
      rw [List.filter_append, List.map_append]
      cases hh : hitR rows g x r.1.2.1 with
      | true => simp [hh]
      | false => simp [hh]
theorem outP_len {rows : List (List Int)} {g x : Int} (l : List (RunT rows g)) : (outP rows g x l).length ≤ l.length := by
  unfold outP
  rw [List.length_map]
  exact List.length_filter_le _ _
theorem outP_hit {rows : List (List Int)} {g x : Int} (l : List (RunT rows g)) (r : RunT rows g) (h : hitR rows g x r.1.2.1 = true) : outP rows g x (l ++ [r]) = outP rows g x l ++ [(r.1.2.2 : Int)] := by simp [outP, h]
theorem outP_miss {rows : List (List Int)} {g x : Int} (l : List (RunT rows g)) (r : RunT rows g) (h : hitR rows g x r.1.2.1 = false) : outP rows g x (l ++ [r]) = outP rows g x l := by simp [outP, h]
theorem wpListIn_append_at {F : Fence} {n : Nat} {P : Program} (w : World) {ops : Array Oper} {rest : List Oper} {o : Oper} {a : Act} {Q : Exit → Act → World → Prop} (hg : o.guard = none) (s x : Operand) (t : TypeId) (hop : o.op = Op.call { callee := Callee.builtin Builtin.append, args := #[s, x], argTypes := #[t, t] })
    (base : Nat) (e : TypeId) (i : TypeInfo) (z : Value) (bytes : Nat) (h1 : P.underlying t = some (.slice e)) (h2 : P.info? e = some i) (h3 : i.zero = some z) (h4 : i.size = 1) (h5 : i.bytes = bytes) (h6 : z.cells.size = 1)
    (v : Value) (k : Nat) (xs : List Value) (hs : a.eval s = v) (hown : w.ownsRow base e 1 v k xs) (ad : Addr) (c : Nat) (u : Value) (hx : a.eval x = .slice (some ad) 1 c)
    (hc : ∀ j y, [u][j]? = some y → w.cell? (ad.add j) = some y) (hu : u.oneCell' = true) (b1 : k + 1 ≤ maxLen) (b2 : (k + 1) * bytes ≤ 140737488355328) (b3 : base ≤ w.heap.size)
    (hK : ∀ v' w', w'.ownsRow base e 1 v' (k + 1) (xs ++ [u]) → w.grownBy w' v.ownBlock → (v'.ownBlock = v.ownBlock ∨ v'.ownBlock = some w.heap.size) → wpListIn F n P ops Q rest (a.put o.dst v') w') :
    wpListIn F n P ops Q (o :: rest) a w := by
  refine wpListIn_plain hg fun K hK' => ?_
  obtain ⟨v', w', hrun, r1, r2, -, r4⟩ := run_append_own_at (P := P) w base t o.type e i z 1 bytes h1 h2 h3 h4 h5 h6 (by decide) v k xs hown ad 1 c [u] rfl hc (by simpa using hu) b1 b2 b3
  unfold Oper.wpIn
  refine ⟨by simp [Oper.about, hop, resolve, Target.leads, Sem.run_pure], ?_⟩
  rw [Oper.semAt_plain F _ _ (by rw [hop]; intro c hc'; cases hc')]
  simp [execOp, hop, resolve, invoke, builtin, hs, hx, hrun, Result.andThen]
  exact hK' _ _ (hK v' w' r1 r2 r4)
theorem ownsRow_base {w : World} {b b' e k : Nat} {v : Value} {xs : List Value} (h : w.ownsRow b e 1 v k xs) (hb : b' ≤ b) : w.ownsRow b' e 1 v k xs :=
  ⟨h.1, h.2.imp id fun ⟨g, cap, cur, h1, h2, h3⟩ => ⟨g, cap, cur, h1, Nat.le_trans hb h2, h3⟩⟩
theorem runK_app {Bo : Nat} {W w1 : World} {v : Value} {tmp : Obj} {g' m cap' : Nat} {n₀ : Nat} (hc : W.cell? ⟨Bo, 0, none⟩ = some v) (hgrow : (W.alloc tmp).grownBy w1 v.ownBlock) (hat : (Value.slice (some ⟨g', 0, none⟩) m cap').ownBlock = v.ownBlock ∨ (Value.slice (some ⟨g', 0, none⟩) m cap').ownBlock = some (W.alloc tmp).heap.size) (hg : g' < w1.heap.size)
    (hb : Below n₀ W (w1.setCell ⟨Bo, 0, none⟩ (.slice (some ⟨g', 0, none⟩) m cap'))) (hbox : Boxed (w1.setCell ⟨Bo, 0, none⟩ (.slice (some ⟨g', 0, none⟩) m cap')) Bo 22 (.slice (some ⟨g', 0, none⟩) m cap')) : RunK Bo W (w1.setCell ⟨Bo, 0, none⟩ (.slice (some ⟨g', 0, none⟩) m cap')) := by
  have hrow : rowOf Bo W = v.ownBlock := by unfold rowOf; rw [hc]; rfl
  have hsz := (grownBy_setCell' w1 Bo (.slice (some ⟨g', 0, none⟩) m cap')).size
  have hsz1 := hgrow.size
  rw [World.size_alloc] at hsz1 hat
  refine ⟨hb.os, hb.tape, hb.output, hb.size, fun a u h1 h2 h3 => ?_, fun r hr => ?_⟩
  · have hlt := World.block_lt_of_cell? W a h1
    rw [hrow] at h3
    have e1 : w1.heap[a.block]? = (W.alloc tmp).heap[a.block]? := hgrow.block _ (by rw [World.size_alloc]; omega) (fun e => h3 e.symm)
    have e2 : (W.alloc tmp).heap[a.block]? = W.heap[a.block]? := Below.heap_alloc W tmp a.block hlt
    exact ((grownBy_setCell' w1 Bo _).block a.block (by omega) (fun e => h2 (by injection e))).trans (e1.trans e2)
  · unfold rowOf at hr
    rw [hbox.cell] at hr
    have hr : some g' = some r := hr
    injection hr with hr
    subst hr
    rcases hat with hat | hat
    · exact .inl (hrow.trans hat.symm)
    · have hat : some g' = some (W.heap.size + 1) := hat
      injection hat with hat
      exact .inr ⟨by omega, by omega⟩
theorem own_lt' {w : World} {base e : Nat} {g k cap : Nat} {xs : List Value} (h : w.ownsRow base e 1 (.slice (some ⟨g, 0, none⟩) (k + 1) cap) (k + 1) xs) : g < w.heap.size := by
  rcases h.2 with ⟨h0, -⟩ | ⟨g', cap', cur, h0, -, hg, -⟩
  · cases h0
  · injection h0 with h0; injection h0 with h0; injection h0 with h0
    subst h0
    exact (Array.getElem?_eq_some_iff.1 hg).1
theorem info3 : (Tryd.prog.info? 3).map (fun i => (i.zero, i.size, i.bytes)) = some (some (.int .i64 0), 1, 8) := by kernel_rfl
theorem long_in (n : Nat) (hn : 3 ≤ n) (rows : List (List Int)) (g x : Int) (hrl : rows.length ≤ 1000) (I0 : Nat → Prop) (A0 : Option Addr) (c0 : Nat) (w : World) (hI : ∀ k, I0 k → k < w.heap.size) (hgl : GlOk ⟨w, I0, fun _ => none⟩) (hS : (cRows rows).S w I0 (.slice A0 rows.length c0)) :
    CallsIn Fence.wide n Tryd.prog 19 #[.slice A0 rows.length c0, .int .i64 g, .int .i64 x] w fun e W' => ∃ v, e = .returned v ∧ W'.ownsRow w.heap.size 3 1 v (longB rows g x).length ((longB rows g x).map (Value.int .i64)) ∧ Below w.heap.size w W' := by
  have h1 : 1 ≤ n := by omega
  obtain ⟨i0, hi, hz0, hz1, hz2⟩ := info_parts info3
  refine callsIn_of_wp_marks Tryd.func19 rfl trivial ?_ rfl
  simp only [Tryd.ntmps19, List.size_toArray, List.length_cons, List.length_nil, Nat.reduceAdd, Nat.reduceSub, Array.replicate_succ, Array.replicate_zero, List.push_toArray, List.append_toArray, List.nil_append, List.cons_append]
  gi_wp2_with (refine ⟨trivial, ?_⟩; gi_at_call 45; refine (runs_in _ _ _ _ _ _).mono ?_; rintro e w' ⟨rfl, rfl⟩)
  obtain ⟨s, hs⟩ : ∃ s, w.heap.size = s := ⟨_, rfl⟩
  have b0 := ((((((Boxed.new w 26 (.slice A0 rows.length c0)).alloc (.cells #[.int .i64 g] 3)).alloc (.cells #[.int .i64 x] 3)).alloc (.cells #[.slice none 0 0] 22)).alloc (.cells #[.slice A0 rows.length c0] 26)).alloc (.cells #[.int .i64 g] 3))
  have b1 := (((((Boxed.new (w.alloc (.cells #[.slice A0 rows.length c0] 26)) 3 (.int .i64 g))).alloc (.cells #[.int .i64 x] 3)).alloc (.cells #[.slice none 0 0] 22)).alloc (.cells #[.slice A0 rows.length c0] 26)).alloc (.cells #[.int .i64 g] 3)
  have b2 := ((((Boxed.new ((w.alloc (.cells #[.slice A0 rows.length c0] 26)).alloc (.cells #[.int .i64 g] 3)) 3 (.int .i64 x))).alloc (.cells #[.slice none 0 0] 22)).alloc (.cells #[.slice A0 rows.length c0] 26)).alloc (.cells #[.int .i64 g] 3)
  have b3 := (((Boxed.new (((w.alloc (.cells #[.slice A0 rows.length c0] 26)).alloc (.cells #[.int .i64 g] 3)).alloc (.cells #[.int .i64 x] 3)) 22 (.slice none 0 0))).alloc (.cells #[.slice A0 rows.length c0] 26)).alloc (.cells #[.int .i64 g] 3)
  have b4 := ((Boxed.new ((((w.alloc (.cells #[.slice A0 rows.length c0] 26)).alloc (.cells #[.int .i64 g] 3)).alloc (.cells #[.int .i64 x] 3)).alloc (.cells #[.slice none 0 0] 22)) 26 (.slice A0 rows.length c0))).alloc (.cells #[.int .i64 g] 3)
  have b5 := Boxed.new (((((w.alloc (.cells #[.slice A0 rows.length c0] 26)).alloc (.cells #[.int .i64 g] 3)).alloc (.cells #[.int .i64 x] 3)).alloc (.cells #[.slice none 0 0] 22)).alloc (.cells #[.slice A0 rows.length c0] 26)) 3 (.int .i64 g)
  have hB0 : Below w.heap.size w ((((((w.alloc (.cells #[.slice A0 rows.length c0] 26)).alloc (.cells #[.int .i64 g] 3)).alloc (.cells #[.int .i64 x] 3)).alloc (.cells #[.slice none 0 0] 22)).alloc (.cells #[.slice A0 rows.length c0] 26)).alloc (.cells #[.int .i64 g] 3)) := ((((((Below.refl _ w).alloc (Nat.le_refl _) _).alloc (by simp) _).alloc (by simp; omega) _).alloc (by simp; omega) _).alloc (by simp; omega) _).alloc (by simp; omega) _
  have hsz : ((((((w.alloc (.cells #[.slice A0 rows.length c0] 26)).alloc (.cells #[.int .i64 g] 3)).alloc (.cells #[.int .i64 x] 3)).alloc (.cells #[.slice none 0 0] 22)).alloc (.cells #[.slice A0 rows.length c0] 26)).alloc (.cells #[.int .i64 g] 3)).heap.size = s + 6 := by simp [hs]
  simp only [World.size_alloc, hs, Nat.add_assoc, Nat.reduceAdd] at b1 b2 b3 b4 b5 b0 hB0 ⊢
  obtain ⟨W0, hW0⟩ : ∃ W0, ((((((w.alloc (.cells #[.slice A0 rows.length c0] 26)).alloc (.cells #[.int .i64 g] 3)).alloc (.cells #[.int .i64 x] 3)).alloc (.cells #[.slice none 0 0] 22)).alloc (.cells #[.slice A0 rows.length c0] 26)).alloc (.cells #[.int .i64 g] 3)) = W0 := ⟨_, rfl⟩
  rw [hW0] at b0 b1 b2 b3 b4 b5 hB0 hsz ⊢
  clear hW0
  have hI' : ∀ k, I0 k → k < s := fun k hk => by rw [← hs]; exact hI k hk
  have hb0 : ∀ k, I0 k → W0.heap[k]? = w.heap[k]? := fun k hk => hB0.block k (hI' k hk)
  have hr0 : rowOf (s + 3) W0 = none := by
    unfold rowOf
    rw [b3.cell]; rfl
  have hSt : Stays rows g (s + 3) (.pointer (some ⟨s + 4, 0, none⟩)) (.pointer (some ⟨s + 5, 0, none⟩)) W0 (fun k => I0 k ∨ k = s + 4 ∨ k = s + 5) := by
    refine ⟨fun k hk => ⟨?_, ?_, by rw [hr0]; simp⟩, ?_, ?_, ?_, by omega, fun r hr => by rw [hr0] at hr; cases hr⟩
    · rcases hk with hk | rfl | rfl
      · have := hI' k hk; omega
      · omega
      · omega
    · rcases hk with hk | rfl | rfl
      · have := hI' k hk; omega
      · omega
      · omega
    · exact GlOk.of (c := ⟨w, I0, fun _ => none⟩) (c' := cxI W0 _) (fun _ h => .inl h) hb0 hgl
    · refine ⟨⟨_, rfl, .inr (.inl rfl), fun j hj => ?_⟩, rfl⟩
      obtain rfl : j = 0 := by omega
      exact ⟨_, b4.cell, CV.S_mono (fun _ h => .inl h) hb0 _ _ hS, rfl⟩
    · refine ⟨⟨_, rfl, .inr (.inr rfl), fun j hj => ?_⟩, rfl⟩
      obtain rfl : j = 0 := by omega
      exact ⟨_, b5.cell, rfl, rfl⟩
  refine wpIn_rangeFunc_ownH rfl h1 (gf := 81) (lb := #[.pointer (some ⟨s + 4, 0, none⟩), .pointer (some ⟨s + 5, 0, none⟩)]) rfl trivial (enters_of Tryd.func81 (by kernel_rfl) rfl)
    (runs_stops (n - 1) (s + 3) rows g hrl _ _ _ W0 hSt) (fun h k => h.trans k) ?hKb (Below.refl _ _) (fun _ => rfl)
    (fun pre W => ((∃ v, Boxed W (s + 3) 22 v ∧ W.ownsRow (s + 3) 3 1 v (outP rows g x pre).length ((outP rows g x pre).map (Value.int .i64)) ∧ (v = .slice none 0 0 ↔ outP rows g x pre = [])) ∧ (Boxed W s 26 (.slice A0 rows.length c0) ∧ Boxed W (s + 1) 3 (.int .i64 g)) ∧ Boxed W (s + 2) 3 (.int .i64 x)) ∧ Below s w W)
    (fun _ _ _ => False)
    (OwnFrom.and (OwnFrom.and (Own.from (holdsRow_own (s + 3) (s + 3) 22 3 1 (fun pre => (outP rows g x pre).length) (fun pre => (outP rows g x pre).map (Value.int .i64)) (fun pre v => v = .slice none 0 0 ↔ outP rows g x pre = [])) _) (OwnFrom.and (OwnFrom.and (Own.from (boxed_own _ _ _) _) (Own.from (boxed_own _ _ _) _)) (Own.from (boxed_own _ _ _) _))) (ownFrom_below (by omega) (by omega)))
    (fun _ _ _ _ _ hs _ _ => hs)
    ⟨⟨⟨_, b3, World.ownsRow_nil _ _ _ _, by simp [outP]⟩, ⟨b0, b1⟩, b2⟩, hB0⟩
    (fun r a' W => ∃ Bx, s + 3 < Bx ∧ W.heap[Bx]? = some (.cells #[.int .i64 r.1.1, .int .i64 (r.1.2.1 : Int), .int .i64 (r.1.2.2 : Int)] 75 (0, 0)) ∧ a' = { tmps := #[.slice A0 rows.length c0, .int .i64 g, .int .i64 x, .pointer (some ⟨s, 0, none⟩), .pointer (some ⟨s + 1, 0, none⟩), .pointer (some ⟨s + 2, 0, none⟩), .slice none 0 0, .pointer (some ⟨s + 3, 0, none⟩), .pointer (some ⟨Bx, 0, none⟩), .slice A0 rows.length c0, .int .i64 g, .func (.func 81) #[] #[.pointer (some ⟨s + 4, 0, none⟩), .pointer (some ⟨s + 5, 0, none⟩)], .agg #[.int .i64 r.1.1, .int .i64 (r.1.2.1 : Int), .int .i64 (r.1.2.2 : Int)], undef, undef, undef, undef, undef, undef, undef, undef, undef, undef, undef, undef, undef, undef, undef, undef, undef, undef, undef, undef, undef, undef, undef, undef], defers := [] })
    (fun r a' _ X Y row hs hg hr => by
      obtain ⟨Bx, h1, h2, h3⟩ := hs
      refine ⟨Bx, h1, (hg.block Bx (Array.getElem?_eq_some_iff.1 h2).1 fun e => ?_).trans h2, h3⟩
      obtain ⟨-, o, ho, hc⟩ := hr Bx e.symm
      rw [h2] at ho; cases ho; cases hc)
    ?assign ?body ?done ?stop
  case hKb =>
    intro W l o o' hl ho hc _
    have hne : (s + 3) ≠ l := by omega
    refine ⟨rfl, rfl, rfl, by simp [World.putObj], fun a u h1 _ _ => World.putObj_heap_other (fun e => ?_), fun r hr => .inl ?_⟩
    · unfold World.cell? at h1
      rw [e, ho] at h1
      cases o <;> simp_all [Obj.isCells]
    · rwa [rowOf_same (Bo := s + 3) (show (W.putObj l o').heap[s + 3]? = W.heap[s + 3]? from World.putObj_heap_other (by omega))] at hr
  case assign =>
    rintro l pre r W K ⟨⟨⟨v, bO, hrow, hnil⟩, ⟨bA, bB⟩, bX⟩, hB⟩ hK
    gi_wp2
    exact hK _ _ ((KeepsOthers.alloc _ _).from _) (RunK.of_below ((Below.refl _ W).alloc (Nat.le_refl _) _) bO.lt) ⟨⟨⟨v, bO.alloc _, hrow.alloc _, hnil⟩, ⟨bA.alloc _, bB.alloc _⟩, bX.alloc _⟩, hB.alloc (by have := bO.lt; omega) _⟩ ⟨W.heap.size, bO.lt, World.alloc_heap_new W _, rfl⟩
  case body =>
    rintro l pre ⟨⟨r1, r2, r3⟩, hr1, hr2, hr3⟩ a' W hl hrec ⟨⟨⟨v, bO, hrow, hnil⟩, ⟨bA, bB⟩, bX⟩, hB⟩ ⟨Bx, hBx, hc, rfl⟩ hlt
    dsimp only at hr1 hr2 hr3 hc ⊢
    subst hr1
    have hSW : (cRows rows).S W I0 (.slice A0 rows.length c0) := CV.S_mono (fun _ h => h) (fun k hk => hB.block k (hI' k hk)) _ _ hS
    obtain ⟨A, cap, he, -, -, hel⟩ := hSW
    injection he with he1 he2 he3
    obtain ⟨ad, u, hA, -, hcell, hu, -⟩ := hel r2 0 (by omega) (by omega)
    obtain ⟨A1, c1, rfl⟩ := S_slice hu
    rw [← he1] at hA
    subst hA
    subst he3
    have qr : W.cell? (ad.add r2) = some (.slice A1 (rows.getD r2 []).length c1) := by
      have := hcell
      rwa [Nat.mul_one, Nat.add_zero] at this
    obtain ⟨ln, hln⟩ : ∃ ln, (rows.getD r2 []).length = ln := ⟨_, rfl⟩
    rw [hln] at qr
    have cA := bA.cell
    have cB := bB.cell
    have cX := bX.cell
    have cO := bO.cell
    have q0 : W.cell? ⟨Bx, 0, none⟩ = some (.int .i64 (shows rows r2 g)) := by simp [World.cell?, hc]
    have q1 : W.cell? ⟨Bx, 1, none⟩ = some (.int .i64 (r2 : Int)) := by simp [World.cell?, hc]
    have q2 : W.cell? ⟨Bx, 2, none⟩ = some (.int .i64 (r3 : Int)) := by simp [World.cell?, hc]
    have hu75 := Tryd.underlying75
    have hpl := outP_len (x := x) pre
    clear hcell hu hel he1 hc
    have hko : ∀ nq, KeepsOthers W (W.drewN nq) := fun nq => others_drewN W nq
    have hrk : ∀ nq, RunK (s + 3) W (W.drewN nq) := fun nq => RunK.of_below (pw_below_drewN (Below.refl _ _) nq) bO.lt
    have hrn : ∀ nq, (W.drewN nq).ownsRow (s + 3) 3 1 v (outP rows g x pre).length ((outP rows g x pre).map (Value.int .i64)) := fun nq => hrow
    have hSh : inR rows r2 g = true → shows rows r2 g = cell rows r2 g.toNat := fun h => if_pos h
    by_cases hx : shows rows r2 g = x
    case neg =>
      have hb : (shows rows r2 g == x) = false := beq_eq_false_iff_ne.2 hx
      have hm : hitR rows g x r2 = false := by
        unfold hitR
        cases hin : inR rows r2 g with
        | false => rfl
        | true => rw [Bool.true_and]; exact decide_eq_false (fun h => hx ((hSh hin).trans h))
      have eM := outP_miss (x := x) pre ⟨(shows rows r2 g, r2, r3), rfl, hr2, hr3⟩ hm
      clear hx hm hSh
      gi_wp2
      refine region_quiet_round (by kernel_rfl) (by kernel_rfl) (by kernel_rfl) ?_
      repeat (gi_big_quiet_step (fail))
      refine wpQuietIn_nil ?_
      intro _ hw'
      obtain ⟨nq, hw''⟩ := hw'
      subst hw''
      gi_wp2
      exact ⟨(hko nq).from _, hrk nq, ⟨⟨v, blk_drewN bO nq, by rw [eM]; exact hrn nq, by rw [eM]; exact hnil⟩, ⟨blk_drewN bA nq, blk_drewN bB nq⟩, blk_drewN bX nq⟩, pw_below_drewN hB nq⟩
    have hb : (shows rows r2 g == x) = true := beq_iff_eq.2 hx
    by_cases hg : 0 ≤ g
    case neg =>
      have hg1 : decide (0 ≤ g) = false := decide_eq_false hg
      have hg2 : decide (g ≥ 0) = false := decide_eq_false hg
      have hm : hitR rows g x r2 = false := by
        unfold hitR inR
        rw [decide_eq_false (fun h => hg h.1)]; rfl
      have eM := outP_miss (x := x) pre ⟨(shows rows r2 g, r2, r3), rfl, hr2, hr3⟩ hm
      clear hx hm hSh
      gi_wp2
      refine region_quiet_round (by kernel_rfl) (by kernel_rfl) (by kernel_rfl) ?_
      repeat (gi_big_quiet_step (fail))
      refine wpQuietIn_nil ?_
      intro _ hw'
      obtain ⟨nq, hw''⟩ := hw'
      subst hw''
      gi_wp2
      exact ⟨(hko nq).from _, hrk nq, ⟨⟨v, blk_drewN bO nq, by rw [eM]; exact hrn nq, by rw [eM]; exact hnil⟩, ⟨blk_drewN bA nq, blk_drewN bB nq⟩, blk_drewN bX nq⟩, pw_below_drewN hB nq⟩
    have hg1 : decide (0 ≤ g) = true := decide_eq_true hg
    have hg2 : decide (g ≥ 0) = true := decide_eq_true hg
    by_cases hl2 : g < (ln : Int)
    case neg =>
      have hl1 : decide (g < (ln : Int)) = false := decide_eq_false hl2
      have hm : hitR rows g x r2 = false := by
        unfold hitR inR
        rw [hln, decide_eq_false (fun h => hl2 h.2)]; rfl
      have eM := outP_miss (x := x) pre ⟨(shows rows r2 g, r2, r3), rfl, hr2, hr3⟩ hm
      clear hx hm hSh hl2 hln
      gi_wp2
      refine region_quiet_round (by kernel_rfl) (by kernel_rfl) (by kernel_rfl) ?_
      repeat (gi_big_quiet_step (fail))
      refine wpQuietIn_nil ?_
      intro _ hw'
      obtain ⟨nq, hw''⟩ := hw'
      subst hw''
      gi_wp2
      exact ⟨(hko nq).from _, hrk nq, ⟨⟨v, blk_drewN bO nq, by rw [eM]; exact hrn nq, by rw [eM]; exact hnil⟩, ⟨blk_drewN bA nq, blk_drewN bB nq⟩, blk_drewN bX nq⟩, pw_below_drewN hB nq⟩
    have hl1 : decide (g < (ln : Int)) = true := decide_eq_true hl2
    have hin : inR rows r2 g = true := by
      unfold inR
      rw [hln]
      exact decide_eq_true ⟨hg, hl2⟩
    have hm : hitR rows g x r2 = true := by
      unfold hitR
      rw [hin, Bool.true_and]
      exact decide_eq_true ((hSh hin).symm.trans hx)
    have eM := outP_hit (x := x) pre ⟨(shows rows r2 g, r2, r3), rfl, hr2, hr3⟩ hm
    have bO2 : ∀ nq, Boxed (W.drewN nq) (s + 3) 22 v := fun nq => blk_drewN bO nq
    have hB2 : ∀ nq, Below s w (W.drewN nq) := fun nq => pw_below_drewN hB nq
    clear hx hm hSh hl2 hln hin
    gi_wp2
    refine region_quiet_round (by kernel_rfl) (by kernel_rfl) (by kernel_rfl) ?_
    repeat (gi_big_quiet_step (fail))
    refine wpQuietIn_nil ?_
    intro _ hw'
    obtain ⟨nq, hw''⟩ := hw'
    subst hw''
    have cOq : (W.drewN nq).cell? ⟨s + 3, 0, none⟩ = some v := cO
    have q2q : (W.drewN nq).cell? ⟨Bx, 2, none⟩ = some (.int .i64 (r3 : Int)) := q2
    have k1 := hko nq
    have k2 := hrk nq
    have k3 := hrn nq
    have k4 := bO2 nq
    have k5 : Boxed (W.drewN nq) s 26 (.slice (some ad) rows.length c0) := blk_drewN bA nq
    have k6 : Boxed (W.drewN nq) (s + 1) 3 (.int .i64 g) := blk_drewN bB nq
    have k7 : Boxed (W.drewN nq) (s + 2) 3 (.int .i64 x) := blk_drewN bX nq
    have k8 := hB2 nq
    obtain ⟨Wq, hWq⟩ : ∃ Wq, W.drewN nq = Wq := ⟨_, rfl⟩
    rw [hWq] at cOq q2q k1 k2 k3 k4 k5 k6 k7 k8 ⊢
    clear hWq hko hrk hrn bO2 hB2 cO q0 q1 q2 cA cB cX qr
    gi_wp2_with (gi_at_builtin; refine wpListIn_append_at _ rfl _ _ 22 rfl (s + 3) 3 i0 (.int .i64 0) 8 Tryd.underlying22 hi hz0 hz1 hz2 rfl _ _ _ rfl (k3.alloc _) ⟨Wq.heap.size, 0, none⟩ 1 (.int .i64 (r3 : Int)) rfl (cell_one_new _ _ _) rfl (by show (outP rows g x pre).length + 1 ≤ 9223372036854775807; omega) (by show ((outP rows g x pre).length + 1) * 8 ≤ 140737488355328; omega) (by have := k4.lt; simp; omega) ?_; intro v' w1 hown' hgrow hat; obtain ⟨g', cap', rfl⟩ := ownsRow_succ hown'; obtain ⟨hv1, hv2, hr2', hk2, hb2⟩ := k4.appended (by decide) k3 (by have := k4.lt; omega) (Nat.le_refl _) hown' hgrow; have hc1 := hv1.cell; have hf1 := hv1.frozen; have hlt' := own_lt' hown'; have hRK := runK_app cOq hgrow hat hlt' hb2 hv2)
    have hsb : ∀ (b : Nat) (t : TypeId) (u : Value), Boxed Wq b t u → b < s + 3 → Boxed (w1.setCell ⟨s + 3, 0, none⟩ (.slice (some ⟨g', 0, none⟩) ((outP rows g x pre).length + 1) cap')) b t u := fun b t u hb hlt => (hb2.block b hlt).trans hb
    exact ⟨(k1.trans hk2).from _, k2.trans hRK, ⟨⟨_, hv2, by rw [eM]; simpa using hr2', by rw [eM]; simp⟩, ⟨hsb _ _ _ k5 (by omega), hsb _ _ _ k6 (by omega)⟩, hsb _ _ _ k7 (by omega)⟩, k8.trans (hb2.mono (by omega))⟩
  case done =>
    rintro D ys W hD hys ⟨⟨⟨v, hv, hrow, hnil⟩, -⟩, hB⟩ hK
    have hc := hv.cell
    have hrow' := ownsRow_putObj (ownsRow_base hrow (show s ≤ s + 3 by omega)) (.deferred none) hK rfl
    rw [outP_eq _ rfl hys] at hrow'
    have hbl := hB.trans (belowK_b (w := w) (Nat.le_of_eq hs.symm) W D _ (.deferred none) (by omega) hK rfl rfl)
    gi_wp2
    refine ⟨by simp, .inl ⟨_, _, rfl, run_takeDeferred hK, ?_⟩⟩
    exact ⟨_, results_tmp rfl _ _ _, v, rfl, by rw [hs]; exact hrow', by rw [hs]; exact hbl⟩
  case stop =>
    rintro D c pre W _ _ h _
    exact h.elim
theorem S_own {w : World} {I : Nat → Prop} {base e : Nat} {l : List Int} {v : Value} (h : w.ownsRow base e 1 v l.length (l.map (Value.int .i64))) (hI : ∀ k, base ≤ k → k < w.heap.size → I k) : (cInts l).S w I v ∧ v.oneCell' = true := by
  rcases h.2 with ⟨rfl, h0⟩ | ⟨g, cap, cur, rfl, hb, hg, hnc, hcm, -⟩
  · refine ⟨⟨none, 0, ?_, by omega, by rw [h0]; exact Nat.zero_le _, fun i j hi _ => by omega⟩, rfl⟩
    rw [h0]
  · refine ⟨⟨_, cap, rfl, hnc, Nat.le_trans hnc hcm, fun i j hi hj => ?_⟩, rfl⟩
    obtain rfl : j = 0 := by omega
    have hc := h.cells (g := g) rfl i (.int .i64 (l.getD i 0)) (by rw [List.getElem?_map, List.getD_eq_getElem?_getD, List.getElem?_eq_getElem hi]; rfl)
    exact ⟨_, _, rfl, hI g hb (Array.getElem?_eq_some_iff.1 hg).1, by rw [Nat.mul_one, Nat.add_zero]; exact hc, rfl, rfl⟩
def SpLong : Spec := .pure fun a r => ∃ rows g x, rows.length ≤ 1000 ∧ a = [fRows rows, fI g, fI x] ∧ r = fInts (longB rows g x)
theorem long_ok : SpecOk Tryd.prog 19 SpLong := by
  rintro args pre r post ⟨⟨rows, g, x, hrl, rfl, rfl⟩, rfl, rfl⟩ c ys hgl hy hI hZ hpre hdj
  match ys, hy with
  | [y, z, u], ⟨hy, hz, hu, _⟩ =>
    have h1 : (cRows rows).S c.w c.I y := hy.1
    obtain ⟨A, n, rfl⟩ := S_slice h1
    have hz : z = .int .i64 g := hz.1
    have hu : u = .int .i64 x := hu.1
    subst hz hu
    exact (callsIn_wide.1 (long_in 3 (Nat.le_refl 3) rows g x hrl c.I A n c.w hI (GlOk.of (c := c) (c' := ⟨c.w, c.I, fun _ => none⟩) (fun _ h => h) (fun _ _ => rfl) hgl) h1)).mono fun e w' ⟨v, he, hown, hb⟩ => by
      subst he
      exact ends_of hI hb (S_own hown (I := (cxN c w').I) (fun k h1 h2 => .inr ⟨h1, h2⟩))
end Tr
end Go.Proofs.YtpciieagafddcaaDoor.E
