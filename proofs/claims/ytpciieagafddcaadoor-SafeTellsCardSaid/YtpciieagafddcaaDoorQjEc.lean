/- An engine that walks a function's text with what is known of it (own text, wip/eng). -/
import Derived.Test.YtpciieagafddcaaDoorQjEb
import Derived.Scope
import Derived.ChangeKeysEq
import Derived.Laws.StructEq
namespace Go.Proofs.YtpciieagafddcaaDoor.E
open Go Go.RowKit
set_option linter.unusedVariables false
set_option linter.unusedSimpArgs false
def SubF (fr : List (Nat × FV)) (ids : List Nat) : List (Nat × FV) → Prop
  | [] => True
  | (t, v) :: l => look fr t = some (v.ren ids) ∧ v.lt ids.length = true ∧ SubF fr ids l
def SubH (hp : HP) (ids : List Nat) : HP → Prop
  | [] => True
  | (j, b) :: l => (match b with
    | some b => look hp (ids.getD j 0) = some (some (b.ren ids)) ∧ b.lt ids.length = true ∧ Nat.blt j ids.length = true
    | none => True) ∧ SubH hp ids l
def preB : List Nat → Nat → Nat → Bool
  | _, _, 0 => true
  | [], _, _ + 1 => false
  | i :: l, j, n + 1 => Nat.beq i j && preB l (j + 1) n
def Sub (s : AS) (ids : List Nat) (s' : AS) : Prop :=
  (nodupB ids && preB ids 0 s.m && Nat.beq s.m s'.m) = true ∧ SubF s.fr ids s'.fr ∧ SubH s.hp ids s'.hp ∧ s'.nid = ids.length ∧ s'.N = s.N
def setNid (s : AS) (n : Nat) (k : AS → Prop) : Prop :=
  match s with
  | ⟨fr, hp, _, N, m⟩ => k ⟨fr, hp, n, N, m⟩
noncomputable def acode (T : TT) (Γ : Nat → Option Spec) (c : Code) : (Exit → AS → Prop) → AS → Prop :=
  Code.rec (motive := fun _ => (Exit → AS → Prop) → AS → Prop)
    (skip := fun K s => K .normal s)
    (region := fun _ ops draw K s => match s with
      | ⟨fr, hp, nid, N, m⟩ => aops T Γ ops nid ops.toList 0 ⟨fr, hp, nid, N, m⟩ [] fun recs s' => match draw with
        | true => chk ops.toList recs [] 0 = true ∧ setNid s' (nid + ops.size) (K .normal)
        | false => setNid s' (nid + ops.size) (K .normal))
    (seq := fun _ _ iha ihb K s => iha (fun e s' => match e with
      | .normal => ihb K s'
      | e => K e s') s)
    (cond := fun c _ _ ihx ihy K s => match ev s.fr c with
      | some (.t (.one (.v (.bool t)))) => bc t (ihx K s) (ihy K s)
      | _ => False)
    (block := fun id _ ih K s => ih (fun e s' => match e with
      | .exit i => match Nat.beq i id with
        | true => K .normal s'
        | false => K (.exit i) s'
      | e => K e s') s)
    (loop := fun _ ih K s => ∃ (ι : Type) (I : ι → Prop) (St : ι → AS) (μ : ι → Nat), (∃ ids i, I i ∧ Sub s ids (St i)) ∧ ∀ i, I i → ih (fun e s' => match e with
      | .normal => ∃ ids j, I j ∧ μ j < μ i ∧ Sub s' ids (St j)
      | e => K e s') (St i))
    (rangeFunc := fun _ _ _ _ _ _ _ _ => False)
    (exit := fun i K s => K (.exit i) s)
    (scope := fun _ ih K s => ih (fun e s' => match e with
      | .goto _ => False
      | e => K e s') s)
    (label := fun _ K s => K .normal s)
    (goto := fun _ _ _ => False)
    (ret := fun K s => K .ret s)
    (refuse := fun _ _ _ => False) c
theorem acode_region {T : TT} {Γ : Nat → Option Spec} {id : Nat} {ops : Array Oper} {draw : Bool} {K : Exit → AS → Prop} {s : AS} : acode T Γ (.region id ops draw) K s = aops T Γ ops s.nid ops.toList 0 s [] fun recs s' => match draw with
    | true => chk ops.toList recs [] 0 = true ∧ setNid s' (s.nid + ops.size) (K .normal)
    | false => setNid s' (s.nid + ops.size) (K .normal) := rfl
section
variable {P : Program} {T : TT} {Γ : Nat → Option Spec}
theorem subF_get {fr : List (Nat × FV)} {ids : List Nat} : ∀ {l : List (Nat × FV)}, SubF fr ids l → ∀ t v, look l t = some v → look fr t = some (v.ren ids) ∧ v.lt ids.length = true
  | [], _, t, v, h => by simp [look] at h
  | (i, x) :: l, h, t, v, hl => by
    by_cases hi : i = t
    · subst hi
      rw [look_eq] at hl
      cases hl
      exact ⟨h.1, h.2.1⟩
    · rw [look_ne hi] at hl
      exact subF_get h.2.2 t v hl
theorem subH_get {hp : HP} {ids : List Nat} : ∀ {l : HP}, SubH hp ids l → ∀ j b, look l j = some (some b) → look hp (ids.getD j 0) = some (some (b.ren ids)) ∧ b.lt ids.length = true ∧ j < ids.length
  | [], _, t, v, h => by simp [look] at h
  | (i, x) :: l, h, t, v, hl => by
    by_cases hi : i = t
    · subst hi
      rw [look_eq] at hl
      cases hl
      exact ⟨h.1.1, h.1.2.1, Nat.le_of_ble_eq_true h.1.2.2⟩
    · rw [look_ne hi] at hl
      exact subH_get h.2 t v hl
theorem preB_get' : ∀ {l : List Nat} {i n : Nat}, preB l i n = true → ∀ j, j < n → l[j]? = some (i + j)
  | _, _, 0, _, j, h => by omega
  | [], _, _ + 1, h, _, _ => by simp [preB] at h
  | a :: l, i, n + 1, h, j, hj => by
    simp only [preB, Bool.and_eq_true] at h
    have := Nat.eq_of_beq_eq_true h.1
    cases j with
    | zero => simp [this]
    | succ j =>
      have := preB_get' h.2 j (by omega)
      rw [show i + (j + 1) = i + 1 + j by omega]
      simpa using this
theorem preB_get {l : List Nat} {n : Nat} (h : preB l 0 n = true) {j : Nat} (hj : j < n) : j < l.length ∧ l[j]? = some j := by
  have := preB_get' h j hj
  rw [Nat.zero_add] at this
  exact ⟨(List.getElem?_eq_some_iff.1 this).1, this⟩
theorem SR.sub {base : Nat} {X : Ini} {w0 : World} {Z : Nat → Prop} {c : Cx} {s s' : AS} {a : Act} (h : SR base X w0 Z c s a) {ids : List Nat} (hs : Sub s ids s') :
    ∃ c', c'.w = c.w ∧ SR base X w0 (fun id => s'.nid ≤ id) c' s' a := by
  obtain ⟨hn, hf, hh, hnid, hN⟩ := hs
  simp only [Bool.and_eq_true] at hn
  obtain ⟨⟨hn, hpre⟩, hmm⟩ := hn
  have hmm := Nat.eq_of_beq_eq_true hmm
  let c1 : Cx := { w := c.w, I := c.I, ρ := fun j => if j < ids.length then c.ρ (ids.getD j 0) else none }
  have hren : Ren ids c1 c := ⟨fun j hj => if_pos hj, rfl, rfl⟩
  refine ⟨c1, rfl, by rw [hN]; exact h.sz, h.df, fun t fv hl => ?_, ?_, fun id hid => if_neg (by omega), by rw [← hmm]; exact h.m⟩
  · obtain ⟨h1, h2⟩ := subF_get hf t fv hl
    obtain ⟨y, h3, h4⟩ := h.fr t _ h1
    exact ⟨y, h3, (hren.fv h2).2 h4⟩
  · have H := h.H
    refine ⟨fun id b hl => ?_, fun i j bi bj hi hj hij k hk hk' => ?_, fun i b k hl hk => ?_, H.Ilt, H.os, H.tape, H.out, H.sz, H.bs, H.fx, H.I0, H.I1, fun j v hv => ?_, H.gl⟩
    · obtain ⟨h1, h2, h3⟩ := subH_get hh id b hl
      exact (hren.blk h3 h2).2 (H.blk _ _ h1)
    · obtain ⟨h1, h2, h3⟩ := subH_get hh i bi hi
      obtain ⟨h4, h5, h6⟩ := subH_get hh j bj hj
      rw [hren.bl h3] at hk
      rw [hren.bl h6] at hk'
      refine H.dj _ _ _ _ h1 h4 (fun e => hij ?_) k hk hk'
      refine nodup_get hn i j (ids.getD i 0) ?_ ?_
      · rw [List.getD_eq_getElem?_getD, List.getElem?_eq_getElem h3]; rfl
      · rw [e, List.getD_eq_getElem?_getD, List.getElem?_eq_getElem h6]; rfl
    · obtain ⟨h1, h2, h3⟩ := subH_get hh i b hl
      rw [hren.bl h3] at hk
      exact H.ni _ _ k h1 hk
    · obtain ⟨h1, h2⟩ := preB_get hpre (h.m j v hv)
      rw [hren.ρ j h1, List.getD_eq_getElem?_getD, h2]
      exact H.r0 j v hv
theorem SR.drew {base : Nat} {X : Ini} {w0 : World} {Z : Nat → Prop} {c : Cx} {s : AS} {a : Act} (h : SR base X w0 Z c s a) (n : Nat) : SR base X w0 Z { c with w := { c.w with drawn := n } } s a := by
  have hE : Ext c { c with w := { c.w with drawn := n } } := ⟨fun _ h => h, fun _ _ => rfl, fun _ _ h => h⟩
  refine ⟨h.sz, h.df, fun t fv hl => ?_, ?_, h.Z, h.m⟩
  · obtain ⟨y, h1, h2⟩ := h.fr t fv hl
    exact ⟨y, h1, FV.R_mono hE h2⟩
  · have H := h.H
    exact ⟨fun id b hl => Blk.R_mono hE (fun _ _ => rfl) (H.blk id b hl), H.dj, H.ni, H.Ilt, H.os, H.tape, H.out, H.sz, H.bs, H.fx, H.I0, H.I1, H.r0, GlOk.mono hE H.gl⟩
def Post (base : Nat) (X : Ini) (w0 : World) (K : Exit → AS → Prop) (e : Exit) (a : Act) (w : World) : Prop := ∃ c s, c.w = w ∧ SR base X w0 (fun id => s.nid ≤ id) c s a ∧ K e s
theorem acode_ok (hT : TOk P T) (hΓ : ΓOk P Γ) (hm : P.follows .mixedOrders = true) {base : Nat} {X : Ini} {w0 : World} : ∀ (code : Code) (K : Exit → AS → Prop) (s : AS), acode T Γ code K s → ∀ (c : Cx) (a : Act), SR base X w0 (fun id => s.nid ≤ id) c s a → code.wp P (Post base X w0 K) a c.w := by
  intro code
  induction code with
  | skip => exact fun K s h c a hs => wp_skip ⟨c, s, rfl, hs, h⟩
  | region id ops draw =>
    intro K s h c a hs
    rw [acode_region] at h
    obtain ⟨recs, h1, h2, h3⟩ := aops_ok hT hΓ h
    simp only [List.reverse_nil, List.nil_append] at h1
    have hlen : recs.length = ops.size := by simpa using h2
    cases draw with
    | false =>
      refine wp_region ?_
      have := plain_ok (Q := Post base X w0 K) ops.toList 0 s recs (fun j => by simp) (by simp) h2 h3 c a (by simpa using hs) (fun c' a' hs' => ⟨c', { recs.foldl AS.step s with nid := s.nid + ops.size }, rfl, ⟨hs'.sz, hs'.df, hs'.fr, hs'.H, hs'.Z, hs'.m⟩, h1⟩)
      simpa using this
    | true =>
      obtain ⟨hchk, h1⟩ := h1
      refine wp_region_any hm ?_
      refine drawn_ok false (nid := s.nid) (Q := Post base X w0 K) (base := base) (X := X) (w0 := w0) (s := s) hlen hchk (fun j o hj => ?_) (fun h => by cases h) (fun _ c' a' hs' => ⟨c', { recs.foldl AS.step s with nid := s.nid + ops.size }, rfl, ⟨hs'.sz, hs'.df, hs'.fr, hs'.H, hs'.Z, hs'.m⟩, h1⟩)
        ops.size (Array.replicate ops.size false) (fun q => decide (ops.size ≤ q)) (by simp) (fun q hq => ?_) (fun q hq => by simpa using hq) ?_ (fun q o ho hq e he hb => ?_) (fun h => by cases h) { c with w := { c.w with drawn := c.w.drawn + 1 } } a ?_
      · obtain ⟨r, h4, h5, h6⟩ := h3 j o (by simpa using hj)
        exact ⟨r, h4, h5, .inl ⟨.inl rfl, fun s' ha => by simpa using h6 s' ha⟩⟩
      · have : ¬ ops.size ≤ q := by omega
        simp [hq, this]
      · exact Nat.le_trans (List.length_filter_le _ _) (by simp)
      · have := (Array.getElem?_eq_some_iff.1 ho).1
        simp at hq
        omega
      · have hs' := hs.drew (c.w.drawn + 1)
        have hst : stepD (fun q => decide (ops.size ≤ q)) recs 0 s = s := by
          have : ∀ (l : List Rec) (i : Nat) (s : AS), i + l.length ≤ ops.size → stepD (fun q => decide (ops.size ≤ q)) l i s = s := by
            intro l
            induction l with
            | nil => intros; rfl
            | cons r l ih =>
              intro i s hi
              simp at hi
              unfold stepD
              have : decide (ops.size ≤ i) = false := by simp; omega
              rw [this]
              exact ih (i + 1) s (by omega)
          exact this recs 0 s (by omega)
        rw [hst]
        exact ⟨hs'.sz, hs'.df, hs'.fr, hs'.H, fun id hid => hs'.Z id hid.1, hs'.m⟩
  | seq x y ihx ihy =>
    intro K s h c a hs
    refine wp_seq ((wp_mono (ihx _ s h c a hs) ?_))
    rintro e a' w' ⟨c', s', rfl, hs', hk⟩
    cases e with
    | normal => exact ihy K s' hk c' a' hs'
    | _ => exact ⟨c', s', rfl, hs', hk⟩
  | cond co x y ihx ihy =>
    intro K s h c a hs
    have h : (match ev s.fr co with
      | some (.t (.one (.v (.bool t)))) => bc t (acode T Γ x K s) (acode T Γ y K s)
      | _ => False) := h
    split at h
    · rename_i t ht
      have he := ev_ok hs ht
      have he : a.eval co = .bool t := he.1
      refine wp_cond he ?_
      rcases bc_elim h with ⟨rfl, h⟩ | ⟨rfl, h⟩
      · exact ihx K s h c a hs
      · exact ihy K s h c a hs
    · exact h.elim
  | block id b ih =>
    intro K s h c a hs
    refine wp_block (wp_mono (ih _ s h c a hs) ?_)
    rintro e a' w' ⟨c', s', rfl, hs', hk⟩
    cases e with
    | exit i =>
      simp only [Exit.inBlock]
      by_cases hi : i = id
      · subst hi
        rw [if_pos rfl]
        simp only [Nat.beq_refl] at hk
        exact ⟨c', s', rfl, hs', hk⟩
      · rw [if_neg hi]
        have : Nat.beq i id = false := by
          cases hb : Nat.beq i id with
          | true => exact absurd (Nat.eq_of_beq_eq_true hb) hi
          | false => rfl
        simp only [this] at hk
        exact ⟨c', s', rfl, hs', hk⟩
    | _ => exact ⟨c', s', rfl, hs', hk⟩
  | loop b ih =>
    intro K s h c a hs
    obtain ⟨ι, I, St, μ, ⟨ids, i0, hi0, hsub⟩, hround⟩ := h
    obtain ⟨c1, hw, hs1⟩ := hs.sub hsub
    rw [← hw]
    -- by the measure
    intro fb k cs
    have key : ∀ (n : Nat) (i : ι), μ i = n → I i → ∀ (c : Cx) (a : Act), SR base X w0 (fun id => (St i).nid ≤ id) c (St i) a →
        ∃ e a' w', Post base X w0 K e a' w' ∧ Arrives P (lone (fb.at a (.code b :: .inLoop b :: k)) cs c.w) fb k cs e a' w' := by
      intro n
      induction n using Nat.strongRecOn with
      | _ n ihn =>
        intro i hn hi c a hs
        obtain ⟨e, a', w', ⟨c', s', rfl, hs', hk⟩, harr⟩ := ih _ (St i) (hround i hi) c a hs fb (.inLoop b :: k) cs
        cases e with
        | normal =>
          obtain ⟨ids', j, hj, hlt, hsub'⟩ := hk
          obtain ⟨c2, hw2, hs2⟩ := hs'.sub hsub'
          obtain ⟨e2, a2, w2, hq, harr2⟩ := ihn (μ j) (by omega) j rfl hj c2 a' hs2
          rw [hw2] at harr2
          exact ⟨e2, a2, w2, hq, .of_steps (Steps.trans harr (.one step_inLoop)) harr2⟩
        | exit id => exact ⟨_, a', c'.w, ⟨c', s', rfl, hs', hk⟩, .pass (x := .inLoop b) rfl (fun _ _ => .inl (by simp)) harr⟩
        | goto l => exact ⟨_, a', c'.w, ⟨c', s', rfl, hs', hk⟩, .pass (x := .inLoop b) rfl (fun _ _ => .inl (by simp)) harr⟩
        | ret => exact ⟨_, a', c'.w, ⟨c', s', rfl, hs', hk⟩, .pass (x := .inLoop b) rfl (fun _ _ => .inl (by simp)) harr⟩
        | panic ch => exact ⟨_, a', c'.w, ⟨c', s', rfl, hs', hk⟩, .pass (x := .inLoop b) rfl (fun _ _ => .inl (by simp)) harr⟩
        | outgrown => exact ⟨_, a', c'.w, ⟨c', s', rfl, hs', hk⟩, .pass (x := .inLoop b) rfl (fun _ _ => .inl (by simp)) harr⟩
    obtain ⟨e, a', w', hq, harr⟩ := key _ i0 rfl hi0 c1 a hs1
    exact ⟨e, a', w', hq, .of_steps (.one step_loop) harr⟩
  | rangeFunc => intro K s h; exact h.elim
  | exit i => exact fun K s h c a hs => wp_exit ⟨c, s, rfl, hs, h⟩
  | scope b ih =>
    intro K s h c a hs
    refine wp_scope_straight (wp_mono (ih _ s h c a hs) ?_)
    rintro e a' w' ⟨c', s', rfl, hs', hk⟩
    cases e with
    | goto l => exact hk.elim
    | _ => exact ⟨c', s', rfl, hs', hk⟩
  | label l => exact fun K s h c a hs => wp_label ⟨c, s, rfl, hs, h⟩
  | goto => intro K s h; exact h.elim
  | ret => exact fun K s h c a hs => wp_ret ⟨c, s, rfl, hs, h⟩
  | refuse => intro K s h; exact h.elim
def retV (T : TT) (s : AS) : ResultVar → Option TV
  | .tmp t => match look s.fr t with
    | some x => match fzF s.hp x with
      | .t x => some x
      | _ => none
    | none => none
  | .cell t ty => match look s.fr t, look T ty with
    | some (.t (.one (.ptr id off))), some ti => match blkOf s.hp (some id) with
      | some (.var _ cs) => match seg cs off ti.size with
        | some l => match isAggD ti.d with
          | true => some (.agg l)
          | false => match l with
            | [x] => some (.one x)
            | _ => none
        | none => none
      | _ => none
    | _, _ => none
def retVs (T : TT) (s : AS) : List ResultVar → Option (List TV)
  | [] => some []
  | r :: l => match retV T s r with
    | some v => match retVs T s l with
      | some vs => some (v :: vs)
      | none => none
    | none => none
def retF (T : TT) (s : AS) (l : List ResultVar) : Option FV :=
  match retVs T s l with
  | some [x] => some (.t x)
  | some vs => some (.tup vs)
  | none => none
def Posts (hp : HP) (n : Nat) : Nat → List Blk → Prop
  | _, [] => True
  | j, b :: l => look hp j = some (some b) ∧ b.lt n = true ∧ Posts hp n (j + 1) l
def ownO : Option FV → List Nat
  | some (.t (.one (.own id))) => [id]
  | _ => []
def ownR (s : AS) : List ResultVar → List Nat
  | [] => []
  | .tmp t :: l => ownO (look s.fr t) ++ ownR s l
  | .cell _ _ :: l => ownR s l
def retK (T : TT) (rs : List ResultVar) (r : FV) (post : List Blk) (n : Nat) (e : Exit) (s : AS) : Prop :=
  match e with
  | .normal | .ret => retF T s rs = some r ∧ r.isS = true ∧ (ownR s rs).all (fun id => Nat.ble n id) = true ∧ Posts s.hp n 0 post
  | _ => False
def enumF : Nat → List FV → List (Nat × FV)
  | _, [] => []
  | i, x :: l => (i, x) :: enumF (i + 1) l
def enumH : Nat → List Blk → HP
  | _, [] => []
  | i, x :: l => (i, some x) :: enumH (i + 1) l
theorem look_enumF : ∀ {l : List FV} {i t : Nat} {v : FV}, look (enumF i l) t = some v → i ≤ t ∧ l[t - i]? = some v
  | [], i, t, v, h => by simp [enumF, look] at h
  | x :: l, i, t, v, h => by
    by_cases hi : i = t
    · subst hi
      rw [enumF, look_eq] at h
      cases h
      simp
    · rw [enumF, look_ne hi] at h
      obtain ⟨h1, h2⟩ := look_enumF h
      refine ⟨by omega, ?_⟩
      rw [show t - i = (t - (i + 1)) + 1 by omega]
      simpa using h2
theorem look_enumH : ∀ {l : List Blk} {i t : Nat} {v : Option Blk}, look (enumH i l) t = some v → i ≤ t ∧ ∃ b, v = some b ∧ l[t - i]? = some b
  | [], i, t, v, h => by simp [enumH, look] at h
  | x :: l, i, t, v, h => by
    by_cases hi : i = t
    · subst hi
      rw [enumH, look_eq] at h
      cases h
      exact ⟨Nat.le_refl _, x, rfl, by simp⟩
    · rw [enumH, look_ne hi] at h
      obtain ⟨h1, b, h2, h3⟩ := look_enumH h
      refine ⟨by omega, b, h2, ?_⟩
      rw [show t - i = (t - (i + 1)) + 1 by omega]
      simpa using h3
theorem posts_get {hp : HP} {n : Nat} : ∀ {l : List Blk} {j : Nat}, Posts hp n j l → ∀ (i : Nat) b, l[i]? = some b → look hp (j + i) = some (some b) ∧ b.lt n = true
  | [], _, _, i, b, h => by simp at h
  | x :: l, j, h, i, b, hi => by
    cases i with
    | zero => simp at hi; subst hi; exact ⟨h.1, h.2.1⟩
    | succ i =>
      have := posts_get h.2.2 i b (by simpa using hi)
      rwa [show j + 1 + i = j + (i + 1) by omega] at this
end
end Go.Proofs.YtpciieagafddcaaDoor.E
namespace Go.Proofs.YtpciieagafddcaaDoor.E
open Go Go.RowKit
set_option linter.unusedVariables false
set_option linter.unusedSimpArgs false
section
variable {P : Program} {T : TT} {Γ : Nat → Option Spec}
def resV (tm : Array Value) : ResultVar → Sem Value
  | .tmp t => pure (tm.getD t undef)
  | .cell t ty => do loadVar ty (← asAddr (tm.getD t undef))
theorem results_eq (fn : Func) (tm : Array Value) : results fn tm = (do
    let vs ← fn.results.mapM (resV tm)
    pure (if h : vs.size = 1 then vs[0] else .tuple vs)) := by
  unfold results
  congr 2
theorem asAddr_run (a : Addr) (w : World) : (asAddr (.pointer (some a))).run P w = .ok a w := rfl
theorem retV_ok (hT : TOk P T) {base : Nat} {X : Ini} {w0 : World} {Z : Nat → Prop} {c : Cx} {s : AS} {a : Act} (hs : SR base X w0 Z c s a) {r : ResultVar} {x : TV} (h : retV T s r = some x) (hS : x.isS = true)
    (c1 : Cx) (hw : c1.w = c.w) (hI : ∀ b, c.I b → c1.I b) (hF : ∀ k, Fz c s.hp (ownR s [r]) k → c1.I k) :
    ∃ y, (resV a.tmps r).run P c.w = .ok y c.w ∧ x.R c1 y := by
  cases r with
  | tmp t =>
    simp only [retV] at h
    split at h
    · rename_i fv hl
      obtain ⟨y, h1, h2⟩ := hs.fr t fv hl
      have hy : a.tmps.getD t undef = y := by simp [Array.getD_eq_getD_getElem?, h1]
      split at h
      · rename_i z hz
        cases h
        refine ⟨y, by simp only [resV, hy]; rfl, ?_⟩
        have hf := fz_args (xs := [fv]) (ys := [y]) hs.H ⟨h2, trivial⟩ (by simp only [List.map_cons, List.map_nil, hz, List.all_cons, List.all_nil, Bool.and_true]; exact hS) c1 hw hI (fun k hk => hF k (by
          obtain ⟨id, h3, h4, h5⟩ := hk
          refine ⟨id, ?_, h4, h5⟩
          simp only [ownR, hl, List.append_nil]
          cases fv with
          | tup _ => cases h3
          | t z => cases z with
            | agg _ => cases h3
            | one z => cases z <;> first | exact h3 | cases h3))
        have := hf.1
        rw [hz] at this
        exact this
      · cases h
    · cases h
  | cell t ty =>
    simp only [retV] at h
    split at h
    · rename_i id off ti hl hti
      have hFt := hT.facts hti
      obtain ⟨y, h1, h2⟩ := hs.fr t _ hl
      have hy : a.tmps.getD t undef = y := by simp [Array.getD_eq_getD_getElem?, h1]
      split at h
      · rename_i e cs hb
        have hlk : look s.hp id = some (some (.var e cs)) := by
          unfold blkOf at hb
          simp only at hb
          split at hb
          · rename_i b hb'; rw [hb', hb]
          · cases hb
        obtain ⟨⟨g, hρ, rfl⟩, -⟩ := h2
        obtain ⟨b', us, hρ', hh, hu⟩ := hs.H.blk id _ hlk
        have : b' = g := by rw [hρ] at hρ'; injection hρ' with h; injection h with h; injection h with h; injection h with h; exact h.symm
        subst this
        split at h
        · rename_i l hsg
          obtain ⟨e1, e2⟩ := seg_ok hsg
          have hul : all2 (fun x u => x.R c u ∧ u.oneCell' = true) l ((us.drop off).take ti.size) := by rw [e1]; exact all2_take _ (all2_drop _ hu)
          have hcell : ∀ (j : Nat) u, ((us.drop off).take ti.size)[j]? = some u → c.w.cell? ((⟨b', off, none⟩ : Addr).add j) = some u := fun j u hj => by
            rw [addr_add]
            refine cell_of_heap hh ?_
            rw [List.getElem?_take] at hj
            split at hj
            · rw [List.getElem?_drop] at hj; simpa using hj
            · cases hj
          have fin : ∀ k : FV → Prop, ofCells ti l k → ∃ fv, k fv ∧ ∃ y, (loadVar ty ⟨b', off, none⟩).run P c.w = .ok y c.w ∧ fv.R c y := fun k hk => by
            obtain ⟨fv, h3, h4⟩ := ofCells_ok (P := P) hFt hk e2
            exact ⟨fv, h3, h4 c _ _ hul hcell⟩
          have mono : ∀ {x : TV} {y : Value}, x.isS = true → x.R c y → x.R c1 y := fun hx hr => TV.R_isS hI (fun b _ => by rw [hw]) hx hr
          split at h
          · rename_i hA
            cases h
            obtain ⟨fv, rfl, y, h5, h6⟩ := fin (fun fv => fv = .t (.agg l)) (by unfold ofCells; rw [hA])
            exact ⟨y, by simp only [resV, hy, Sem.run_bind, asAddr_run, Result.andThen_ok, h5], mono hS h6⟩
          · rename_i hA
            split at h
            · rename_i z
              cases h
              obtain ⟨fv, rfl, y, h5, h6⟩ := fin (fun fv => fv = .t (.one z)) (by unfold ofCells; rw [hA])
              exact ⟨y, by simp only [resV, hy, Sem.run_bind, asAddr_run, Result.andThen_ok, h5], mono hS h6⟩
            · cases h
        · cases h
      · cases h
    · cases h
theorem retVs_ok (hT : TOk P T) {base : Nat} {X : Ini} {w0 : World} {Z : Nat → Prop} {c : Cx} {s : AS} {a : Act} (hs : SR base X w0 Z c s a) (c1 : Cx) (hw : c1.w = c.w) (hI : ∀ b, c.I b → c1.I b) : ∀ {rs : List ResultVar} {xs : List TV}, retVs T s rs = some xs → xs.all TV.isS = true →
    (∀ k, Fz c s.hp (ownR s rs) k → c1.I k) → ∃ ys, (rs.mapM (resV a.tmps)).run P c.w = .ok ys c.w ∧ all2 (TV.R c1) xs ys
  | [], xs, h, _, _ => by simp only [retVs, Option.some.injEq] at h; subst h; exact ⟨[], by simp, trivial⟩
  | r :: rs, xs, h, hS, hF => by
    simp only [retVs] at h
    split at h
    · rename_i v hv
      split at h
      · rename_i vs hvs
        cases h
        simp only [List.all_cons, Bool.and_eq_true] at hS
        have hsplit : ∀ id, (id ∈ ownR s [r] ∨ id ∈ ownR s rs) → id ∈ ownR s (r :: rs) := by
          intro id hid
          cases r with
          | tmp t =>
            simp only [ownR, List.append_nil] at hid ⊢
            exact List.mem_append.2 hid
          | cell t ty => exact hid.elim (fun h => by cases h) (fun h => h)
        obtain ⟨y, h1, h2⟩ := retV_ok hT hs hv hS.1 c1 hw hI (fun k ⟨id, h3, h4⟩ => hF k ⟨id, hsplit id (.inl h3), h4⟩)
        obtain ⟨ys, h3, h4⟩ := retVs_ok hT hs c1 hw hI hvs hS.2 (fun k ⟨id, h3, h4⟩ => hF k ⟨id, hsplit id (.inr h3), h4⟩)
        refine ⟨y :: ys, ?_, h2, h4⟩
        simp [List.mapM_cons, h1, h3]
      · cases h
    · cases h
def retKW (T : TT) (rs : List ResultVar) (r : FV) (post : List Blk) (n : Nat) (e : Exit) (s : AS) : Prop :=
  match e with
  | .normal | .ret => ∃ r0, (∀ (c : Cx) y, r0.R c y → r.R c y) ∧ retF T s rs = some r0 ∧ r0.isS = true ∧ (ownR s rs).all (fun id => Nat.ble n id) = true ∧ Posts s.hp n 0 post
  | _ => False
def iniOf (c : Cx) (pre : List Blk) (D : List Deferred) : Ini := ⟨fun k => ∃ j, j < pre.length ∧ c.blk j = some k, c.I, fun j => if j < pre.length then c.ρ j else none, D⟩
theorem ends_core {c c2 : Cx} {pre post : List Blk} {D : List Deferred} {Z : Nat → Prop} {s : AS} {a : Act} {ids : List Nat} {r : FV} {y : Value} (hI : ∀ k, c.I k → k < c.w.heap.size)
    (hpre : ∀ (j : Nat) b, pre[j]? = some b → b.R c j ∧ ∀ k, c.blk j = some k → ¬ c.I k ∧ k < c.w.heap.size) (hlen : post.length = pre.length)
    (hs2 : SR c.w.heap.size (iniOf c pre D) c.w Z c2 s a) (hown : ids.all (fun id => Nat.ble pre.length id) = true) (hpo : Posts s.hp pre.length 0 post)
    (hy2 : r.R { w := c2.w, I := fun k => c2.I k ∨ Fz c2 s.hp ids k, ρ := c.ρ } y) : Ends c pre r post { w := c2.w, I := fun k => c2.I k ∨ Fz c2 s.hp ids k, ρ := c.ρ } y := by
  have H := hs2.H
  let c3 : Cx := { w := c2.w, I := fun k => c2.I k ∨ Fz c2 s.hp (ids) k, ρ := c.ρ }
  have hρ : ∀ j, j < pre.length → c2.ρ j = c.ρ j := by
    intro j hj
    have h1 := posts_get hpo j (post[j]'(by omega)) (List.getElem?_eq_getElem (by omega))
    rw [Nat.zero_add] at h1
    obtain ⟨b0, hb0⟩ : ∃ b0, pre[j]? = some b0 := ⟨_, List.getElem?_eq_getElem hj⟩
    obtain ⟨v, hv⟩ := Blk.R_blk (hpre j b0 hb0).1
    rw [hv]
    exact H.r0 j v (by show (if j < pre.length then c.ρ j else none) = some v; rw [if_pos hj]; exact hv)
  have hbl : ∀ j, j < pre.length → c2.blk j = c.blk j := fun j hj => by unfold Cx.blk; rw [hρ j hj]
  have hlive : ∀ j, j < pre.length → ∃ b, look s.hp j = some (some b) := fun j hj => by
    have h1 := posts_get hpo j (post[j]'(by omega)) (List.getElem?_eq_getElem (by omega))
    rw [Nat.zero_add] at h1
    exact ⟨_, h1.1⟩
  have hE : Ext c c3 := ⟨fun b hb => .inl (H.I0 b hb), fun b hb => H.fx b (hI b hb) (fun ⟨j, hj, hjk⟩ => by
    obtain ⟨b0, hb0⟩ : ∃ b0, pre[j]? = some b0 := ⟨_, List.getElem?_eq_getElem hj⟩
    exact ((hpre j b0 hb0).2 b hjk).1 hb), fun _ _ h => h⟩
  refine ⟨hy2, hE, rfl, fun k hk => ?_, H.os, H.tape, H.out, H.sz, hlen, fun j b hb => ?_, fun k hk hkj => H.fx k hk (fun ⟨j, hj, hjk⟩ => hkj j hj hjk)⟩
  · have H3 := H.freeze (ids)
    refine ⟨H3.Ilt k hk, ?_⟩
    rcases H3.I1 k hk with h1 | h1 | ⟨j, hj, hjk⟩
    · exact .inl h1
    · exact .inr h1
    · exfalso
      obtain ⟨b, hb⟩ := hlive j hj
      have hnot : j ∉ ids := fun hin => by
        have := Nat.le_of_ble_eq_true (List.all_eq_true.1 hown j hin)
        omega
      refine (H3.ni j b k ?_ (by show c2.blk j = some k; rw [hbl j hj]; exact hjk)).1 hk
      rw [look_append, look_kills, if_neg hnot]
      exact hb
  · have hj : j < pre.length := by have := (List.getElem?_eq_some_iff.1 hb).1; omega
    obtain ⟨h1, h2⟩ := posts_get hpo j b hb
    rw [Nat.zero_add] at h1
    have hb2 := H.blk j b h1
    -- the names below pre.length are the same
    have hren : Ren (nats pre.length) c2 { c3 with I := c2.I } := ⟨fun i hi => by
      rw [nats_length] at hi
      rw [List.getD_eq_getElem?_getD, nats_get _ _ hi]
      exact hρ i hi, rfl, rfl⟩
    have hb3 := (hren.blk (by rw [nats_length]; exact hj) (by rw [nats_length]; exact h2)).1 hb2
    rw [List.getD_eq_getElem?_getD, nats_get _ _ hj] at hb3
    have hid : b.ren (nats pre.length) = b := by
      have hcv : ∀ x : CV, x.lt pre.length = true → x.ren (nats pre.length) = x := by
        intro x hx
        have hg : ∀ i, Nat.blt i pre.length = true → (nats pre.length).getD i 0 = i := fun i hi => by
          rw [List.getD_eq_getElem?_getD, nats_get _ _ (Nat.le_of_ble_eq_true hi)]; rfl
        cases x with
        | ptr id off => simp only [CV.ren, hg id hx]
        | own id => simp only [CV.ren, hg id hx]
        | rp id sz i j => simp only [CV.ren, hg id hx]
        | fn f a c =>
          simp only [CV.lt, Bool.and_eq_true] at hx
          have hl : ∀ l : List (Nat × Nat), l.all (fun p => Nat.blt p.1 pre.length) = true → l.map (renP (nats pre.length)) = l := by
            intro l hl
            induction l with
            | nil => rfl
            | cons p l ih =>
              simp only [List.all_cons, Bool.and_eq_true] at hl
              rw [List.map_cons, ih hl.2]
              unfold renP
              rw [hg p.1 hl.1]
          simp only [CV.ren, hl a hx.1, hl c hx.2]
        | _ => rfl
      cases b with
      | row => rfl
      | var e cs =>
        simp only [Blk.ren]
        congr 1
        have : ∀ l : List CV, l.all (CV.lt pre.length) = true → l.map (CV.ren (nats pre.length)) = l := by
          intro l hl
          induction l with
          | nil => rfl
          | cons x l ih =>
            simp only [List.all_cons, Bool.and_eq_true] at hl
            rw [List.map_cons, ih hl.2, hcv x hl.1]
        exact this cs h2
    rw [hid] at hb3
    exact Blk.R_mono (c := { c3 with I := c2.I }) (c' := c3) ⟨fun _ h => Or.inl h, fun _ _ => rfl, fun _ _ h => h⟩ (fun _ _ => rfl) hb3
theorem ret_core (hT : TOk P T) {c c2 : Cx} {pre post : List Blk} {D : List Deferred} {Z : Nat → Prop} {s : AS} {a : Act} {r : FV} {fn : Func} (hI : ∀ k, c.I k → k < c.w.heap.size)
    (hpre : ∀ (j : Nat) b, pre[j]? = some b → b.R c j ∧ ∀ k, c.blk j = some k → ¬ c.I k ∧ k < c.w.heap.size) (hlen : post.length = pre.length)
    (hs2 : SR c.w.heap.size (iniOf c pre D) c.w Z c2 s a)
    (hk : ∃ r0, (∀ (c : Cx) y, r0.R c y → r.R c y) ∧ retF T s fn.results.toList = some r0 ∧ r0.isS = true ∧ (ownR s fn.results.toList).all (fun id => Nat.ble pre.length id) = true ∧ Posts s.hp pre.length 0 post) :
    ∃ c' y, (results fn a.tmps).run P c2.w = .ok y c2.w ∧ c'.w = c2.w ∧ Ends c pre r post c' y := by
  obtain ⟨r0, hwk, hr, hS, hown, hpo⟩ := hk
  let c3 : Cx := { w := c2.w, I := fun k => c2.I k ∨ Fz c2 s.hp (ownR s fn.results.toList) k, ρ := c.ρ }
  -- the values
  have hvals : ∃ y, (results fn a.tmps).run P c2.w = .ok y c2.w ∧ r.R c3 y := by
   suffices hv0 : ∃ y, (results fn a.tmps).run P c2.w = .ok y c2.w ∧ r0.R c3 y by
     obtain ⟨y, h1, h2⟩ := hv0
     exact ⟨y, h1, hwk _ _ h2⟩
   unfold retF at hr
   have hmap : ∀ xs, retVs T s fn.results.toList = some xs → xs.all TV.isS = true → ∃ ys, (fn.results.mapM (resV a.tmps)).run P c2.w = .ok ys.toArray c2.w ∧ all2 (TV.R c3) xs ys := by
     intro xs hxs hS
     obtain ⟨ys, h1, h2⟩ := retVs_ok hT hs2 c3 rfl (fun _ h => .inl h) hxs hS (fun _ h => .inr h)
     refine ⟨ys, ?_, h2⟩
     rw [Array.mapM_eq_mapM_toList]
     simp only [Sem.run_map]
     rw [h1]
     rfl
   split at hr
   · rename_i x hx
     cases hr
     obtain ⟨ys, h1, h2⟩ := hmap [x] hx (by simpa [FV.isS] using hS)
     match ys, h2 with
     | [y], h2 =>
       refine ⟨y, ?_, h2.1⟩
       rw [results_eq]
       simp only [Sem.run_bind]
       rw [h1]
       rfl
   · rename_i xs hne hx
     cases hr
     obtain ⟨ys, h1, h2⟩ := hmap xs hx hS
     refine ⟨.tuple ys.toArray, ?_, ⟨ys, rfl, h2⟩⟩
     have hl2 := all2_length h2
     have hn1 : ¬ ys.toArray.size = 1 := by
       intro h3
       match xs, hl2, hne with
       | [z], _, hne => exact hne z rfl
       | [], hl2, _ => simp at hl2 h3; omega
       | _ :: _ :: _, hl2, _ => simp at hl2 h3; omega
     rw [results_eq]
     simp only [Sem.run_bind]
     rw [h1]
     simp only [Result.andThen_ok, Sem.run_pure]
     rw [dif_neg hn1]
   · cases hr
  obtain ⟨y, hy1, hy2⟩ := hvals
  exact ⟨c3, y, hy1, rfl, ends_core hI hpre hlen hs2 hown hpo hy2⟩
theorem spec_of_codeG (hT : TOk P T) (hΓ : ΓOk P Γ) (hm : P.follows .mixedOrders = true) {f : Nat} {fn : Func} {body : Code} {S : Spec} (hf : P.funcs[f]? = some fn) (hb : fn.body = some body)
    (h : ∀ args pre r post, S.G args pre r post → post.length = pre.length ∧ ∃ K : Exit → AS → Prop, (∀ e s, K e s → retKW T fn.results.toList r post pre.length e s) ∧ acode T Γ body K ⟨enumF 0 args, enumH 0 pre, pre.length, args.length + (fn.ntmps - args.length), pre.length⟩) : SpecOk P f S := by
  intro args pre r post hG c ys hgl hy hI hZ hpre hdj
  obtain ⟨hlen, K, hK, hcode⟩ := h args pre r post hG
  refine calls_of_wp hf hb ?_
  have hla := all2_length hy
  let X : Ini := iniOf c pre []
  have hs : SR c.w.heap.size X c.w (fun id => pre.length ≤ id) c ⟨enumF 0 args, enumH 0 pre, pre.length, args.length + (fn.ntmps - args.length), pre.length⟩ { tmps := ys.toArray ++ Array.replicate (fn.ntmps - ys.toArray.size) undef, defers := [] } := by
    refine ⟨by simp [hla], rfl, fun t fv hl => ?_, ?_, fun id hid => hZ id hid, fun j v hv => ?_⟩
    · obtain ⟨-, h2⟩ := look_enumF hl
      rw [Nat.sub_zero] at h2
      obtain ⟨y, h3, h4⟩ := all2_get hy h2
      refine ⟨y, ?_, h4⟩
      have : t < ys.length := (List.getElem?_eq_some_iff.1 h3).1
      rw [Array.getElem?_append_left (by simpa using this)]
      simpa using h3
    · refine ⟨fun id b hl => ?_, fun i j bi bj hi hj hij k hk hk' => ?_, fun i b k hl hk => ?_, hI, rfl, rfl, rfl, Nat.le_refl _, Nat.le_refl _, fun _ _ _ => rfl, fun _ h => h, fun _ h => .inl h, fun j v hv => ?_, hgl⟩
      · obtain ⟨-, b', e, h2⟩ := look_enumH hl
        cases e
        rw [Nat.sub_zero] at h2
        exact (hpre id b h2).1
      · obtain ⟨-, b', e, h2⟩ := look_enumH hi
        obtain ⟨-, b'', e', h3⟩ := look_enumH hj
        rw [Nat.sub_zero] at h2 h3
        exact hdj i j (List.getElem?_eq_some_iff.1 h2).1 (List.getElem?_eq_some_iff.1 h3).1 hij k hk hk'
      · obtain ⟨-, b', e, h2⟩ := look_enumH hl
        rw [Nat.sub_zero] at h2
        obtain ⟨-, h3⟩ := hpre i b' h2
        obtain ⟨h4, h5⟩ := h3 k hk
        exact ⟨h4, .inr ⟨i, (List.getElem?_eq_some_iff.1 h2).1, hk⟩, h5⟩
      · show c.ρ j = some v
        have hv : (if j < pre.length then c.ρ j else none) = some v := hv
        split at hv
        · exact hv
        · cases hv
    · show j < pre.length
      have hv : (if j < pre.length then c.ρ j else none) = some v := hv
      split at hv
      · assumption
      · cases hv
  refine wp_mono (acode_ok hT hΓ hm body _ _ hcode c _ hs) ?_
  rintro e a w ⟨c2, s, rfl, hs2, hk⟩
  replace hk := hK _ _ hk
  have main : (∃ r0, (∀ (c : Cx) y, r0.R c y → r.R c y) ∧ retF T s fn.results.toList = some r0 ∧ r0.isS = true ∧ (ownR s fn.results.toList).all (fun id => Nat.ble pre.length id) = true ∧ Posts s.hp pre.length 0 post) →
      a.defers = [] ∧ ∃ v, (results fn a.tmps).run P c2.w = .ok v c2.w ∧ ∃ c' y, Ending.returned v = .returned y ∧ c'.w = c2.w ∧ Ends c pre r post c' y := fun hk => by
    obtain ⟨c', y, h1, h2, h3⟩ := ret_core hT hI hpre hlen hs2 hk
    exact ⟨hs2.df, y, h1, c', y, rfl, h2, h3⟩
  cases e with
  | normal => exact main hk
  | ret => exact main hk
  | _ => exact hk.elim
theorem spec_of_code (hT : TOk P T) (hΓ : ΓOk P Γ) (hm : P.follows .mixedOrders = true) {f : Nat} {fn : Func} {body : Code} {S : Spec} (hf : P.funcs[f]? = some fn) (hb : fn.body = some body)
    (h : ∀ args pre r post, S.G args pre r post → post.length = pre.length ∧ acode T Γ body (retK T fn.results.toList r post pre.length) ⟨enumF 0 args, enumH 0 pre, pre.length, args.length + (fn.ntmps - args.length), pre.length⟩) : SpecOk P f S :=
  spec_of_codeG hT hΓ hm hf hb fun args pre r post hG => ⟨(h args pre r post hG).1, _, fun e s hk => by
    cases e with
    | normal => exact ⟨r, fun _ _ h => h, hk⟩
    | ret => exact ⟨r, fun _ _ h => h, hk⟩
    | _ => exact hk.elim, (h args pre r post hG).2⟩
theorem spec_of_codeW (hT : TOk P T) (hΓ : ΓOk P Γ) (hm : P.follows .mixedOrders = true) {f : Nat} {fn : Func} {body : Code} {S : Spec} (hf : P.funcs[f]? = some fn) (hb : fn.body = some body)
    (h : ∀ args pre r post, S.G args pre r post → post.length = pre.length ∧ acode T Γ body (retKW T fn.results.toList r post pre.length) ⟨enumF 0 args, enumH 0 pre, pre.length, args.length + (fn.ntmps - args.length), pre.length⟩) : SpecOk P f S :=
  spec_of_codeG hT hΓ hm hf hb fun args pre r post hG => ⟨(h args pre r post hG).1, _, fun e s hk => hk, (h args pre r post hG).2⟩
theorem ΓOk.nil : ΓOk P (look []) := fun f S h => by cases h
theorem ΓOk.cons {l : List (Nat × Spec)} (h : ΓOk P (look l)) {f : Nat} {S : Spec} {fn : Func} (hs : SpecOk P f S) (hf : P.funcs[f]? = some fn) (hn : ((fn.name == "runtime.NumGoroutine") || fn.body.isNone) = false) : ΓOk P (look ((f, S) :: l)) := by
  intro g S' hg
  by_cases he : f = g
  · subst he
    rw [look_eq] at hg
    cases hg
    simp only [Bool.or_eq_false_iff] at hn
    exact ⟨hs, fn, hf, hn.1, hn.2⟩
  · rw [look_ne he] at hg
    exact h g S' hg
end
end Go.Proofs.YtpciieagafddcaaDoor.E
namespace Go.Proofs.YtpciieagafddcaaDoor.E
open Go Go.RowKit
set_option linter.unusedVariables false
set_option linter.unusedSimpArgs false
def gst (ops : Array Oper) (fr : List (Nat × FV)) (o : Oper) : Option Bool :=
  match o.guard with
  | none => some true
  | some (g, want) => match (ops[g]?).bind (·.dst) with
    | some t => match look fr t with
      | some (.t (.one (.v (.bool b)))) => match want with
        | true => some b
        | false => some (!b)
      | some (.tup []) => some false
      | _ => none
    | none => none
def gdst (ops : Array Oper) (o : Oper) : Option Nat :=
  match o.guard with
  | none => none
  | some (g, _) => (ops[g]?).bind (·.dst)
def isPlain (o : Oper) : Bool :=
  match o.op with
  | .call c => match c.callee with
    | .builtin _ => true
    | _ => false
  | _ => true
def recOf (ops : Array Oper) (o : Oper) (fv : FV) (upd : HP) (rh : List Nat) : Rec := ⟨o.dst, fv, upd, addO (gdst ops o) (tmps o.op.operands.toList), rh⟩
def recSk (ops : Array Oper) (o : Oper) : Rec := ⟨o.dst, undefF, [], addO (gdst ops o) [], []⟩
section
variable {T : TT} {Γ : Nat → Option Spec} {ops : Array Oper} {nid i : Nat} {o : Oper} {l : List Oper} {fr : List (Nat × FV)} {hp : HP} {n0 N m : Nat} {acc : List Rec} {k : List Rec → AS → Prop}
theorem gst_run {K : Rec → Prop} (hd : dstOk o.dst N = true) (hg : gst ops fr o = some true) (h : arun T Γ ⟨fr, hp, n0, N, m⟩ o (gdst ops o) nid fun r => boolR r K) : aop T Γ ops ⟨fr, hp, n0, N, m⟩ o nid K := by
  unfold aop
  rw [hd]
  unfold gst at hg
  unfold gdst at h
  cases hgd : o.guard with
  | none => rw [hgd] at h; exact h
  | some gw =>
    obtain ⟨g, want⟩ := gw
    rw [hgd] at hg h
    simp only at hg h ⊢
    cases ht : (ops[g]?).bind (·.dst) with
    | none => rw [ht] at hg; cases hg
    | some t =>
      rw [ht] at hg h
      simp only at hg ⊢
      split at hg
      · rename_i b hb
        rw [hb]
        cases want with
        | true => simp only at hg ⊢; cases hg; exact h
        | false =>
          simp only at hg ⊢
          have hb' : b = false := by simpa using hg
          subst hb'
          exact h
      · cases hg
      · cases hg
theorem gst_skip {K : Rec → Prop} (hd : dstOk o.dst N = true) (hg : gst ops fr o = some false) (h : K (recSk ops o)) : aop T Γ ops ⟨fr, hp, n0, N, m⟩ o nid K := by
  unfold aop
  rw [hd]
  unfold gst at hg
  unfold recSk gdst at h
  cases hgd : o.guard with
  | none => rw [hgd] at hg; cases hg
  | some gw =>
    obtain ⟨g, want⟩ := gw
    rw [hgd] at hg h
    simp only at hg h ⊢
    cases ht : (ops[g]?).bind (·.dst) with
    | none => rw [ht] at hg; cases hg
    | some t =>
      rw [ht] at hg h
      simp only at hg ⊢
      split at hg
      · rename_i b hb
        rw [hb]
        cases want with
        | true => simp only at hg ⊢; cases hg; exact h
        | false =>
          simp only at hg ⊢
          have hb' : b = true := by simpa using hg
          subst hb'
          exact h
      · rename_i hb; rw [hb]; exact h
      · cases hg
theorem arun_plain {g : Option Nat} {xs : List FV} {K : Rec → Prop} (hp0 : isPlain o = true) (hx : evs fr o.op.operands.toList = some xs)
    (h : exe T o.op xs (blkOf hp (need o.op xs)) nid fun r u => K ⟨o.dst, r, u, addO g (tmps o.op.operands.toList), addO (need o.op xs) []⟩) : arun T Γ ⟨fr, hp, n0, N, m⟩ o g nid K := by
  unfold arun
  rw [hx]
  unfold isPlain at hp0
  simp only
  cases hop : o.op with
  | call c =>
    rw [hop] at hp0 h
    simp only at hp0 h ⊢
    cases hc : c.callee with
    | builtin b => exact h
    | value f => rw [hc] at hp0; cases hp0
    | invoke r m => rw [hc] at hp0; cases hp0
  | _ => rw [hop] at h; exact h
def next (T : TT) (Γ : Nat → Option Spec) (ops : Array Oper) (nid : Nat) (l : List Oper) (i : Nat) (fr : List (Nat × FV)) (hp : HP) (n0 N m : Nat) (acc : List Rec) (k : List Rec → AS → Prop) : Prop := aops T Γ ops nid l i ⟨fr, hp, n0, N, m⟩ acc k
abbrev Ex (T : TT) (o : Oper) (xs : List FV) (hp : HP) (id : Nat) : (FV → HP → Prop) → Prop := exe T o.op xs (blkOf hp (need o.op xs)) id
def thn (T : TT) (Γ : Nat → Option Spec) (ops : Array Oper) (nid : Nat) (o : Oper) (l : List Oper) (i : Nat) (fr : List (Nat × FV)) (hp : HP) (n0 N m : Nat) (acc : List Rec) (k : List Rec → AS → Prop) (rh : List Nat) (fv : FV) (upd : HP) : Prop :=
  next T Γ ops nid l (i + 1) (putF o.dst fv fr) (upd ++ hp) n0 N m (recOf ops o fv upd rh :: acc) k
def thb (T : TT) (Γ : Nat → Option Spec) (ops : Array Oper) (nid : Nat) (o : Oper) (l : List Oper) (i : Nat) (fr : List (Nat × FV)) (hp : HP) (n0 N m : Nat) (acc : List Rec) (k : List Rec → AS → Prop) (rh : List Nat) (fv : FV) (upd : HP) : Prop :=
  boolF fv fun v => thn T Γ ops nid o l i fr hp n0 N m acc k rh v upd
theorem st_op {xs : List FV} {E : (FV → HP → Prop) → Prop} (hd : dstOk o.dst N = true) (hg : gst ops fr o = some true) (hp0 : isPlain o = true) (hx : evs fr o.op.operands.toList = some xs)
    (he : Ex T o xs hp (nid + i) = E) (h : E (thb T Γ ops nid o l i fr hp n0 N m acc k (addO (need o.op xs) []))) : next T Γ ops nid (o :: l) i fr hp n0 N m acc k := by
  unfold next
  rw [aops_cons]
  refine gst_run hd hg (arun_plain hp0 hx ?_)
  simp only [stepK_eq]
  subst he
  have : (fun (r : FV) (u : HP) => boolR ⟨o.dst, r, u, addO (gdst ops o) (tmps o.op.operands.toList), addO (need o.op xs) []⟩ fun r => aops T Γ ops nid l (i + 1) (AS.step ⟨fr, hp, n0, N, m⟩ r) (r :: acc) k) = thb T Γ ops nid o l i fr hp n0 N m acc k (addO (need o.op xs) []) := by
    funext r u
    rfl
  rw [this]
  exact h
theorem st_skip (hd : dstOk o.dst N = true) (hg : gst ops fr o = some false) {d : Nat} (hdst : o.dst = some d) (h : next T Γ ops nid l (i + 1) ((d, undefF) :: fr) hp n0 N m (recSk ops o :: acc) k) : next T Γ ops nid (o :: l) i fr hp n0 N m acc k := by
  unfold next at *
  rw [aops_cons]
  refine gst_skip hd hg ?_
  rw [stepK_eq]
  unfold recSk at *
  simp only [AS.step, hdst, putF, List.nil_append] at *
  exact h
theorem st_nil (h : k acc.reverse ⟨fr, hp, n0, N, m⟩) : next T Γ ops nid [] i fr hp n0 N m acc k := h
theorem st_v {xs : List FV} {fv : FV} {d : Nat} (hd : dstOk o.dst N = true) (hg : gst ops fr o = some true) (hp0 : isPlain o = true) (hx : evs fr o.op.operands.toList = some xs) (he : ∀ K : FV → HP → Prop, Ex T o xs hp (nid + i) K = K fv []) (hdst : o.dst = some d) (hb : ∀ K : FV → Prop, boolF fv K = K fv) (h : next T Γ ops nid l (i + 1) ((d, fv) :: fr) hp n0 N m (recOf ops o fv [] (addO (need o.op xs) []) :: acc) k) : next T Γ ops nid (o :: l) i fr hp n0 N m acc k := by
  refine st_op hd hg hp0 hx rfl ?_
  rw [he]
  unfold thb
  rw [hb]
  unfold thn
  rw [hdst]
  exact h
theorem st_b {xs : List FV} {b : Bool} {d : Nat} (hd : dstOk o.dst N = true) (hg : gst ops fr o = some true) (hp0 : isPlain o = true) (hx : evs fr o.op.operands.toList = some xs) (he : ∀ K : FV → HP → Prop, Ex T o xs hp (nid + i) K = K (vB b) []) (hdst : o.dst = some d) (ht : b = true → next T Γ ops nid l (i + 1) ((d, vB true) :: fr) hp n0 N m (recOf ops o (vB true) [] (addO (need o.op xs) []) :: acc) k) (hf : b = false → next T Γ ops nid l (i + 1) ((d, vB false) :: fr) hp n0 N m (recOf ops o (vB false) [] (addO (need o.op xs) []) :: acc) k) : next T Γ ops nid (o :: l) i fr hp n0 N m acc k := by
  refine st_op hd hg hp0 hx rfl ?_
  rw [he]
  unfold thb boolF vB
  simp only
  refine bc_of (fun h => ?_) (fun h => ?_) <;> (unfold thn; rw [hdst])
  · exact ht h
  · exact hf h
theorem st_n {xs : List FV} {fv : FV} {d : Nat} {x : Nat × Option Blk} (hd : dstOk o.dst N = true) (hg : gst ops fr o = some true) (hp0 : isPlain o = true) (hx : evs fr o.op.operands.toList = some xs) (he : ∀ K : FV → HP → Prop, Ex T o xs hp (nid + i) K = K fv [x]) (hdst : o.dst = some d) (hb : ∀ K : FV → Prop, boolF fv K = K fv) (h : next T Γ ops nid l (i + 1) ((d, fv) :: fr) (x :: hp) n0 N m (recOf ops o fv [x] (addO (need o.op xs) []) :: acc) k) : next T Γ ops nid (o :: l) i fr hp n0 N m acc k := by
  refine st_op hd hg hp0 hx rfl ?_
  rw [he]
  unfold thb
  rw [hb]
  unfold thn
  rw [hdst]
  exact h
theorem st_s {xs : List FV} {fv : FV} {x : Nat × Option Blk} (hd : dstOk o.dst N = true) (hg : gst ops fr o = some true) (hp0 : isPlain o = true) (hx : evs fr o.op.operands.toList = some xs) (he : ∀ K : FV → HP → Prop, Ex T o xs hp (nid + i) K = K fv [x]) (hdst : o.dst = none) (hb : ∀ K : FV → Prop, boolF fv K = K fv) (h : next T Γ ops nid l (i + 1) fr (x :: hp) n0 N m (recOf ops o fv [x] (addO (need o.op xs) []) :: acc) k) : next T Γ ops nid (o :: l) i fr hp n0 N m acc k := by
  refine st_op hd hg hp0 hx rfl ?_
  rw [he]
  unfold thb
  rw [hb]
  unfold thn
  rw [hdst]
  exact h
theorem st_pv {xs : List FV} {fv : FV} {d : Nat} {p : Prop} (hd : dstOk o.dst N = true) (hg : gst ops fr o = some true) (hp0 : isPlain o = true) (hx : evs fr o.op.operands.toList = some xs) (he : ∀ K : FV → HP → Prop, Ex T o xs hp (nid + i) K = (p ∧ K fv [])) (hp1 : p) (hdst : o.dst = some d) (hb : ∀ K : FV → Prop, boolF fv K = K fv) (h : next T Γ ops nid l (i + 1) ((d, fv) :: fr) hp n0 N m (recOf ops o fv [] (addO (need o.op xs) []) :: acc) k) : next T Γ ops nid (o :: l) i fr hp n0 N m acc k := by
  refine st_op hd hg hp0 hx rfl ?_
  rw [he]
  refine ⟨hp1, ?_⟩
  unfold thb
  rw [hb]
  unfold thn
  rw [hdst]
  exact h
theorem st_pn {xs : List FV} {fv : FV} {d : Nat} {p : Prop} {x : Nat × Option Blk} (hd : dstOk o.dst N = true) (hg : gst ops fr o = some true) (hp0 : isPlain o = true) (hx : evs fr o.op.operands.toList = some xs) (he : ∀ K : FV → HP → Prop, Ex T o xs hp (nid + i) K = (p ∧ K fv [x])) (hp1 : p) (hdst : o.dst = some d) (hb : ∀ K : FV → Prop, boolF fv K = K fv) (h : next T Γ ops nid l (i + 1) ((d, fv) :: fr) (x :: hp) n0 N m (recOf ops o fv [x] (addO (need o.op xs) []) :: acc) k) : next T Γ ops nid (o :: l) i fr hp n0 N m acc k := by
  refine st_op hd hg hp0 hx rfl ?_
  rw [he]
  refine ⟨hp1, ?_⟩
  unfold thb
  rw [hb]
  unfold thn
  rw [hdst]
  exact h
theorem st_pn2 {xs : List FV} {fv : FV} {d : Nat} {p : Prop} {x y : Nat × Option Blk} (hd : dstOk o.dst N = true) (hg : gst ops fr o = some true) (hp0 : isPlain o = true) (hx : evs fr o.op.operands.toList = some xs) (he : ∀ K : FV → HP → Prop, Ex T o xs hp (nid + i) K = (p ∧ K fv [x, y])) (hp1 : p) (hdst : o.dst = some d) (hb : ∀ K : FV → Prop, boolF fv K = K fv) (h : next T Γ ops nid l (i + 1) ((d, fv) :: fr) (x :: y :: hp) n0 N m (recOf ops o fv [x, y] (addO (need o.op xs) []) :: acc) k) : next T Γ ops nid (o :: l) i fr hp n0 N m acc k := by
  refine st_op hd hg hp0 hx rfl ?_
  rw [he]
  refine ⟨hp1, ?_⟩
  unfold thb
  rw [hb]
  unfold thn
  rw [hdst]
  exact h
theorem st_e {xs : List FV} {E : Nat → FV} {d n : Nat} {a : Int} (hd : dstOk o.dst N = true) (hg : gst ops fr o = some true) (hp0 : isPlain o = true) (hx : evs fr o.op.operands.toList = some xs) (he : ∀ K : FV → HP → Prop, Ex T o xs hp (nid + i) K = (∃ j : Nat, a = (j : Int) ∧ j < n ∧ K (E j) [])) (j : Nat) (hj : a = (j : Int)) (hn : j < n) (hdst : o.dst = some d) (hb : ∀ K : FV → Prop, boolF (E j) K = K (E j)) (h : next T Γ ops nid l (i + 1) ((d, E j) :: fr) hp n0 N m (recOf ops o (E j) [] (addO (need o.op xs) []) :: acc) k) : next T Γ ops nid (o :: l) i fr hp n0 N m acc k := by
  refine st_op hd hg hp0 hx rfl ?_
  rw [he]
  refine ⟨j, hj, hn, ?_⟩
  unfold thb
  rw [hb]
  unfold thn
  rw [hdst]
  exact h
theorem cb_v {rh : List Nat} {fv : FV} {d : Nat} (hdst : o.dst = some d) (hb : ∀ K : FV → Prop, boolF fv K = K fv) (h : next T Γ ops nid l (i + 1) ((d, fv) :: fr) hp n0 N m (recOf ops o fv [] rh :: acc) k) : thb T Γ ops nid o l i fr hp n0 N m acc k rh fv [] := by
  unfold thb
  rw [hb]
  unfold thn
  rw [hdst]
  exact h
theorem cb_n {rh : List Nat} {fv : FV} {d : Nat} {u hp' : HP} (hu : u ++ hp = hp') (hdst : o.dst = some d) (hb : ∀ K : FV → Prop, boolF fv K = K fv) (h : next T Γ ops nid l (i + 1) ((d, fv) :: fr) hp' n0 N m (recOf ops o fv u rh :: acc) k) : thb T Γ ops nid o l i fr hp n0 N m acc k rh fv u := by
  subst hu
  unfold thb
  rw [hb]
  unfold thn
  rw [hdst]
  exact h
theorem cb_b {rh : List Nat} {b : Bool} {d : Nat} (hdst : o.dst = some d) (ht : b = true → next T Γ ops nid l (i + 1) ((d, vB true) :: fr) hp n0 N m (recOf ops o (vB true) [] rh :: acc) k) (hf : b = false → next T Γ ops nid l (i + 1) ((d, vB false) :: fr) hp n0 N m (recOf ops o (vB false) [] rh :: acc) k) : thb T Γ ops nid o l i fr hp n0 N m acc k rh (vB b) [] := by
  unfold thb boolF vB
  simp only
  refine bc_of (fun h => ?_) (fun h => ?_) <;> (unfold thn; rw [hdst])
  · exact ht h
  · exact hf h
theorem st_call {c0 : Call} {x : Operand} {f : Nat} {first cap : List (Nat × Nat)} {args ys : List FV} {S : Spec} (hd : dstOk o.dst N = true) (hg : gst ops fr o = some true) (hop : o.op = .call c0) (hcal : c0.callee = .value x) (hx : evs fr o.op.operands.toList = some (.t (.one (.fn (.func f) first cap)) :: args))
    (hΓ : Γ f = some S) (hys : first.map ptrF ++ args ++ cap.map ptrF = ys) (h : callR S ys hp fun r u ids => thb T Γ ops nid o l i fr hp n0 N m acc k ids r u) : next T Γ ops nid (o :: l) i fr hp n0 N m acc k := by
  unfold next
  rw [aops_cons]
  refine gst_run hd hg ?_
  unfold arun
  rw [hx]
  simp only [stepK_eq]
  have e : ∀ K : Oper → Prop, True := fun _ => trivial
  cases o with | mk dst op type pos after guard =>
  simp only at hop hx ⊢
  subst hop
  simp only [hcal, hΓ, hys]
  have : (fun (r : FV) (u : HP) (ids : List Nat) => boolR ⟨dst, r, u, addO (gdst ops ⟨dst, .call c0, type, pos, after, guard⟩) (tmps (Op.call c0).operands.toList), ids⟩ fun r => aops T Γ ops nid l (i + 1) (AS.step ⟨fr, hp, n0, N, m⟩ r) (r :: acc) k) = fun r u ids => thb T Γ ops nid ⟨dst, .call c0, type, pos, after, guard⟩ l i fr hp n0 N m acc k ids r u := by
    funext r u ids
    rfl
  rw [this]
  exact h
theorem call_v {G : List FV → FV → Prop} {ys zs : List FV} {K : FV → HP → List Nat → Prop} (r : FV) (hz : ys.map (fzF hp) = zs) (hG : G zs r) (hS : zs.all FV.isS = true) (hV : r.isV = true) {ids : List Nat} (hi : ownIds ys = ids) (h : K r [] ids) : callR (.pure G) ys hp K := by
  unfold callR
  refine ⟨r, by rw [hz]; exact hG, by rw [hz]; exact hS, ?_⟩
  rw [hV, hi]
  exact h
theorem call_s {G : List FV → FV → Prop} {ys zs : List FV} {K : FV → HP → List Nat → Prop} (r : FV) (hz : ys.map (fzF hp) = zs) (hG : G zs r) (hS : zs.all FV.isS = true) (hV : r.isV = false) {ids : List Nat} (hi : ownIds ys = ids) {u : HP} (hu : (ids.map fun i => ((i, none) : Nat × Option Blk)) = u) (h : K r u ids) : callR (.pure G) ys hp K := by
  unfold callR
  refine ⟨r, by rw [hz]; exact hG, by rw [hz]; exact hS, ?_⟩
  rw [hV, hi]
  simp only
  rw [hu]
  exact h
end
section
variable {T : TT} {Γ : Nat → Option Spec} {K : Exit → AS → Prop} {s : AS}
def seqK (T : TT) (Γ : Nat → Option Spec) (b : Code) (K : Exit → AS → Prop) (e : Exit) (s : AS) : Prop :=
  match e with
  | .normal => acode T Γ b K s
  | e => K e s
def blkK (id : Nat) (K : Exit → AS → Prop) (e : Exit) (s : AS) : Prop :=
  match e with
  | .exit i => match Nat.beq i id with
    | true => K .normal s
    | false => K (.exit i) s
  | e => K e s
def regK (ops : Array Oper) (draw : Bool) (nid : Nat) (K : Exit → AS → Prop) (recs : List Rec) (s : AS) : Prop :=
  match draw with
  | true => chk ops.toList recs [] 0 = true ∧ setNid s (nid + ops.size) (K .normal)
  | false => setNid s (nid + ops.size) (K .normal)
theorem c_seq {a b : Code} (h : acode T Γ a (seqK T Γ b K) s) : acode T Γ (.seq a b) K s := h
theorem c_norm {b : Code} (h : acode T Γ b K s) : seqK T Γ b K .normal s := h
theorem c_ret {b : Code} (h : K .ret s) : seqK T Γ b K .ret s := h
theorem c_exit {b : Code} {i : Nat} (h : K (.exit i) s) : seqK T Γ b K (.exit i) s := h
theorem c_block {id : Nat} {b : Code} (h : acode T Γ b (blkK id K) s) : acode T Γ (.block id b) K s := h
theorem c_bnorm {id : Nat} (h : K .normal s) : blkK id K .normal s := h
theorem c_bret {id : Nat} (h : K .ret s) : blkK id K .ret s := h
theorem c_bexit {id i : Nat} (hi : Nat.beq i id = true) (h : K .normal s) : blkK id K (.exit i) s := by unfold blkK; simp only [hi]; exact h
theorem c_bpass {id i : Nat} (hi : Nat.beq i id = false) (h : K (.exit i) s) : blkK id K (.exit i) s := by unfold blkK; simp only [hi]; exact h
def scoK (K : Exit → AS → Prop) (e : Exit) (s : AS) : Prop :=
  match e with
  | .goto _ => False
  | e => K e s
theorem c_scope {b : Code} (h : acode T Γ b (scoK K) s) : acode T Γ (.scope b) K s := h
theorem c_snorm (h : K .normal s) : scoK K .normal s := h
theorem c_sret (h : K .ret s) : scoK K .ret s := h
theorem c_sexit {i : Nat} (h : K (.exit i) s) : scoK K (.exit i) s := h
theorem c_label {l : Nat} (h : K .normal s) : acode T Γ (.label l) K s := h
theorem c_skip (h : K .normal s) : acode T Γ .skip K s := h
theorem c_cret (h : K .ret s) : acode T Γ .ret K s := h
theorem c_cexit {i : Nat} (h : K (.exit i) s) : acode T Γ (.exit i) K s := h
theorem c_true {c : Operand} {x y : Code} (hc : ev s.fr c = some (vB true)) (h : acode T Γ x K s) : acode T Γ (.cond c x y) K s := by
  show (match ev s.fr c with
    | some (.t (.one (.v (.bool t)))) => bc t (acode T Γ x K s) (acode T Γ y K s)
    | _ => False)
  rw [hc]; exact h
theorem c_false {c : Operand} {x y : Code} (hc : ev s.fr c = some (vB false)) (h : acode T Γ y K s) : acode T Γ (.cond c x y) K s := by
  show (match ev s.fr c with
    | some (.t (.one (.v (.bool t)))) => bc t (acode T Γ x K s) (acode T Γ y K s)
    | _ => False)
  rw [hc]; exact h
theorem c_region {id : Nat} {draw : Bool} {fr : List (Nat × FV)} {hp : HP} {nid N m : Nat} {l : List Oper} (h : next T Γ l.toArray nid l 0 fr hp nid N m [] (regK l.toArray draw nid K)) : acode T Γ (.region id l.toArray draw) K ⟨fr, hp, nid, N, m⟩ := by
  rw [acode_region]
  have e : l.toArray.toList = l := rfl
  exact h
theorem c_plain {ops : Array Oper} {nid : Nat} {recs : List Rec} {fr : List (Nat × FV)} {hp : HP} {n0 N m n : Nat} (hn : nid + ops.size = n) (h : K .normal ⟨fr, hp, n, N, m⟩) : regK ops false nid K recs ⟨fr, hp, n0, N, m⟩ := by
  subst hn; exact h
theorem c_drawn {ops : Array Oper} {nid : Nat} {recs : List Rec} {fr : List (Nat × FV)} {hp : HP} {n0 N m n : Nat} (hn : nid + ops.size = n) (hc : chk ops.toList recs [] 0 = true) (h : K .normal ⟨fr, hp, n, N, m⟩) : regK ops true nid K recs ⟨fr, hp, n0, N, m⟩ := by
  subst hn; exact ⟨hc, h⟩
end
theorem ret_cell {T : TT} {s : AS} {rs : List ResultVar} {t ty id e : Nat} {cs l : List CV} {ti : TI} {r : FV} (h0 : rs = [.cell t ty]) (h1 : look s.fr t = some (.t (.one (.ptr id 0)))) (h2 : look T ty = some ti) (h3 : blkOf s.hp (some id) = some (.var e cs)) (h4 : seg cs 0 ti.size = some l) (h5 : isAggD ti.d = true) (hr : FV.t (.agg l) = r) : retF T s rs = some r := by
  subst h0
  unfold retF retVs retV retVs
  simp only [h1, h2, h3, h4, h5, hr]
section
variable {T : TT} {Γ : Nat → Option Spec} {K : Exit → AS → Prop} {fr : List (Nat × FV)} {hp : HP} {nid N m n1 : Nat} {ι : Type} {I : ι → Prop} {Fr : ι → List (Nat × FV)} {Hp : ι → HP} {μ : ι → Nat} {i : ι}
def lopK (I : ι → Prop) (Fr : ι → List (Nat × FV)) (Hp : ι → HP) (n1 N m : Nat) (μ : ι → Nat) (i : ι) (K : Exit → AS → Prop) (e : Exit) (s' : AS) : Prop :=
  match e with
  | .normal => ∃ ids j, I j ∧ μ j < μ i ∧ Sub s' ids ⟨Fr j, Hp j, n1, N, m⟩
  | e => K e s'
theorem c_loop {b : Code} (I : ι → Prop) (Fr : ι → List (Nat × FV)) (Hp : ι → HP) (μ : ι → Nat) (ids : List Nat) (i0 : ι) (h0 : I i0) (hs : (nodupB ids && preB ids 0 m) = true) (hf : SubF fr ids (Fr i0)) (hh : SubH hp ids (Hp i0)) (hn : ids.length = n1)
    (h : ∀ i, I i → acode T Γ b (lopK I Fr Hp n1 N m μ i K) ⟨Fr i, Hp i, n1, N, m⟩) : acode T Γ (.loop b) K ⟨fr, hp, nid, N, m⟩ := by
  show ∃ (ι : Type) (I : ι → Prop) (St : ι → AS) (μ : ι → Nat), _ ∧ _
  refine ⟨ι, I, fun i => ⟨Fr i, Hp i, n1, N, m⟩, μ, ⟨ids, i0, h0, ?_, hf, hh, hn.symm, rfl⟩, fun i hi => h i hi⟩
  rw [hs]
  simp
theorem c_lnorm (ids : List Nat) (j : ι) (hI : I j) (hμ : μ j < μ i) (hs : (nodupB ids && preB ids 0 m) = true) (hf : SubF fr ids (Fr j)) (hh : SubH hp ids (Hp j)) (hn : ids.length = n1) : lopK I Fr Hp n1 N m μ i K .normal ⟨fr, hp, nid, N, m⟩ := by
  refine ⟨ids, j, hI, hμ, ?_, hf, hh, hn.symm, rfl⟩
  rw [hs]
  simp
theorem c_lret {s : AS} (h : K .ret s) : lopK I Fr Hp n1 N m μ i K .ret s := h
theorem c_lexit {s : AS} {x : Nat} (h : K (.exit x) s) : lopK I Fr Hp n1 N m μ i K (.exit x) s := h
end
attribute [irreducible] next regK seqK blkK thb lopK scoK
end Go.Proofs.YtpciieagafddcaaDoor.E
namespace Go.Proofs.YtpciieagafddcaaDoor.E
open Go Go.RowKit
set_option linter.unusedVariables false
set_option linter.unusedSimpArgs false
def tyB (P : Program) (b : Bool) (t : Nat) : Bool :=
  match P.underlying t with
  | some (.int .i64) => b
  | some .bool => !b
  | _ => false
def fldB (P : Program) : List Bool → List Field → Nat → Bool
  | [], [], _ => true
  | b :: ks, f :: fs, off => (f.name != "_") && P.plainKey f.type && Nat.beq f.offset off && tyB P b f.type && fldB P ks fs (off + 1)
  | _, _, _ => false
def cmpB (P : Program) (x : Nat × List Bool) : Bool :=
  match P.underlying x.1 with
  | some (.struct fs) => fldB P x.2 fs.toList 0 && (P.stoodInHeld x.1 == false) && (P.eqGuardType P.depth x.1 == false)
  | _ => false
section
variable {P : Program}
theorem eqF (d : Nat) {xs ys : Array Value} {w : World} : ∀ {fs : List Field} {ks : List Bool} {off : Nat} {us vs : List Value}, (∀ j u, us[j]? = some u → xs[off + j]? = some u) → (∀ j u, vs[j]? = some u → ys[off + j]? = some u) →
    fldB P ks fs off = true → fitB ks us = true → fitB ks vs = true → (Op.eqFields (d + 1) xs ys fs).run P w = .ok (eqV us vs) w
  | [], [], _, us, vs, _, _, _, hu, hv => by
    cases us with
    | cons => cases hu
    | nil => cases vs with
      | cons => cases hv
      | nil => simp [Op.eqFields, eqV]
  | f :: fs, b :: ks, off, us, vs, hx, hy, h, hu, hv => by
    simp only [fldB, Bool.and_eq_true, bne_iff_ne] at h
    obtain ⟨⟨⟨⟨h1, h2⟩, h3⟩, h4⟩, h5⟩ := h
    have h3 := Nat.eq_of_beq_eq_true h3
    cases us with
    | nil => cases b <;> cases hu
    | cons u us => cases vs with
      | nil => cases b <;> cases hv
      | cons v vs =>
        have hxu : xs[f.offset]? = some u := by rw [h3]; exact hx 0 u rfl
        have hyv : ys[f.offset]? = some v := by rw [h3]; exact hy 0 v rfl
        have hx' : ∀ j u, us[j]? = some u → xs[(off + 1) + j]? = some u := fun j u hj => by rw [show off + 1 + j = off + (j + 1) by omega]; exact hx (j + 1) u hj
        have hy' : ∀ j u, vs[j]? = some u → ys[(off + 1) + j]? = some u := fun j u hj => by rw [show off + 1 + j = off + (j + 1) by omega]; exact hy (j + 1) u hj
        have key : ∀ r, fitB ks us = true → fitB ks vs = true → (Op.equalIn (d + 1) f.type u v).run P w = .ok r w → (Op.eqFields (d + 1) xs ys (f :: fs)).run P w = .ok (r && eqV us vs) w := fun r hu' hv' hr => by
          have ih := eqF d (w := w) hx' hy' h5 hu' hv'
          rw [Op.eqFields]
          simp only [if_pos h1, Sem.run_bind, run_part_plain w h2 hxu, run_part_plain w h2 hyv, hr, Result.andThen_ok]
          cases r
          · simp
          · simpa using ih
        unfold tyB at h4
        split at h4
        · rename_i hty
          subst h4
          cases u <;> first | cases hu | skip
          rename_i k a
          cases k <;> first | cases hu | skip
          cases v <;> first | cases hv | skip
          rename_i k c
          cases k <;> first | cases hv | skip
          exact key _ hu hv (run_equalIn_int w d f.type _ _ a c hty)
        · rename_i hty
          have : b = false := by simpa using h4
          subst this
          cases u <;> first | cases hu | skip
          rename_i a
          cases v <;> first | cases hv | skip
          rename_i c
          exact key _ hu hv (run_equalIn_bool' w d f.type a c hty)
        · cases h4
  | [], _ :: _, _, _, _, _, _, h, _, _ => by cases h
  | _ :: _, [], _, _, _, _, _, h, _, _ => by cases h
theorem cmp_ok (h : cmpTab.all (cmpB P) = true) : CmpOk P := by
  intro t ks ht us vs hu hv
  have hb := List.all_eq_true.1 h _ ht
  unfold cmpB at hb
  simp only at hb
  split at hb
  · rename_i fs hfs
    simp only [Bool.and_eq_true, beq_iff_eq] at hb
    obtain ⟨⟨h1, h2⟩, h3⟩ := hb
    refine ⟨fun w => ?_, h3⟩
    have hf : P.fieldsOf t = fs := by simp [Program.fieldsOf, hfs]
    have he : (Op.equalIn (9998 + 1 + 1) t (.agg us.toArray) (.agg vs.toArray)).run P w = .ok (eqV us vs) w := by
      rw [run_equalIn_struct w 9999 t _ _ (by rw [hf]; exact hfs) h2, hf]
      exact eqF 9998 (fun j u hj => by simpa using hj) (fun j u hj => by simpa using hj) h1 hu hv
    unfold Op.equal Op.maxDepth
    exact he
  · cases hb
theorem tok_of {T : TT} (h1 : T.all (TIB P) = true) (h2 : cmpTab.all (cmpB P) = true) : TOk P T := ⟨h1, cmp_ok h2⟩
end
end Go.Proofs.YtpciieagafddcaaDoor.E
