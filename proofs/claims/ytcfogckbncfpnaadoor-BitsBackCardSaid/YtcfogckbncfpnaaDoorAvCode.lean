/- Code: what a proof sees of a run, statement by statement. -/
import Derived.Test.YtcfogckbncfpnaaDoorAvRegion
namespace Go.Av
open Go.RowKit (Below)

/-- What the proof knows of a frame, and of memory. -/
structure St where
  fr : List (Nat × AV)
  H : Heap

def AWP (P : Program) (W0 : World) (N : Nat) (c : Code) (st : St) (Q : Exit → St → Prop) : Prop :=
  ∀ (C : Ctx) (a : Act), Rel W0 N (lk st.fr) st.H C a →
    c.wp P (fun e a' w' => ∃ st' C', C'.w = w' ∧ Mem C C' ∧ Rel W0 N (lk st'.fr) st'.H C' a' ∧ Q e st') a C.w

/-- A state that knows less, or names otherwise. -/
def Weak (W0 : World) (N : Nat) (st st' : St) : Prop :=
  ∀ (C : Ctx) (a : Act), Rel W0 N (lk st.fr) st.H C a → ∃ C', C'.w = C.w ∧ Mem C C' ∧ Rel W0 N (lk st'.fr) st'.H C' a

section
variable {P : Program} {W0 : World} {N : Nat} {st : St} {Q : Exit → St → Prop}

theorem AWP.mono {c : Code} {Q' : Exit → St → Prop} (h : AWP P W0 N c st Q) (hq : ∀ e s, Q e s → Q' e s) : AWP P W0 N c st Q' :=
  fun C a hr => wp_mono (h C a hr) fun _ _ _ ⟨st', C', h1, h2, h3, h4⟩ => ⟨st', C', h1, h2, h3, hq _ _ h4⟩

theorem AWP.weak {c : Code} {st' : St} (hw : Weak W0 N st st') (h : AWP P W0 N c st' Q) : AWP P W0 N c st Q := fun C a hr => by
  obtain ⟨C1, h1, h2, h3⟩ := hw C a hr
  rw [← h1]
  exact wp_mono (h C1 a h3) fun _ _ _ ⟨s, C', g1, g2, g3, g4⟩ => ⟨s, C', g1, h2.trans g2, g3, g4⟩

/-- What comes behind, from another context. -/
theorem AWP.at {c : Code} {C C1 : Ctx} {a : Act} (h : AWP P W0 N c st Q) (he : Mem C C1) (hr : Rel W0 N (lk st.fr) st.H C1 a) :
    c.wp P (fun e a' w' => ∃ st' C', C'.w = w' ∧ Mem C C' ∧ Rel W0 N (lk st'.fr) st'.H C' a' ∧ Q e st') a C1.w :=
  wp_mono (h C1 a hr) fun _ _ _ ⟨s, C', g1, g2, g3, g4⟩ => ⟨s, C', g1, he.trans g2, g3, g4⟩

theorem awp_skip (h : Q .normal st) : AWP P W0 N .skip st Q := fun C _ hr => wp_skip ⟨st, C, rfl, .refl C, hr, h⟩
theorem awp_label {l : Nat} (h : Q .normal st) : AWP P W0 N (.label l) st Q := fun C _ hr => wp_label ⟨st, C, rfl, .refl C, hr, h⟩
theorem awp_exit {id : Nat} (h : Q (.exit id) st) : AWP P W0 N (.exit id) st Q := fun C _ hr => wp_exit ⟨st, C, rfl, .refl C, hr, h⟩
theorem awp_goto {l : Nat} (h : Q (.goto l) st) : AWP P W0 N (.goto l) st Q := fun C _ hr => wp_goto ⟨st, C, rfl, .refl C, hr, h⟩
theorem awp_ret (h : Q .ret st) : AWP P W0 N .ret st Q := fun C _ hr => wp_ret ⟨st, C, rfl, .refl C, hr, h⟩

/-- One behind the other: what comes behind hides behind 'K'. -/
def Then (K : St → Prop) (Q : Exit → St → Prop) : Exit → St → Prop
  | .normal, s => K s
  | e, s => Q e s

theorem awp_seq {x y : Code} (h : AWP P W0 N x st (Then (fun s => AWP P W0 N y s Q) Q)) : AWP P W0 N (.seq x y) st Q := fun C a hr =>
  wp_seq (wp_mono (h C a hr) fun e a' w' ⟨s, C', g1, g2, g3, g4⟩ => by
    subst g1
    cases e with
    | normal => exact AWP.at (Q := Q) g4 g2 g3
    | _ => exact ⟨s, C', rfl, g2, g3, g4⟩)

theorem awp_seqK {x y : Code} (h : ∀ K : St → Prop, (∀ s, AWP P W0 N y s Q → K s) → AWP P W0 N x st (Then K Q)) : AWP P W0 N (.seq x y) st Q :=
  awp_seq (h _ fun _ h => h)

def InBlock (id : Nat) (Q : Exit → St → Prop) : Exit → St → Prop
  | .exit id', s => if id' = id then Q .normal s else Q (.exit id') s
  | e, s => Q e s

theorem awp_block {id : Nat} {c : Code} (h : AWP P W0 N c st (InBlock id Q)) : AWP P W0 N (.block id c) st Q := fun C a hr =>
  wp_block (wp_mono (h C a hr) fun e a' w' ⟨s, C', g1, g2, g3, g4⟩ => by
    cases e with
    | exit id' =>
      simp only [InBlock] at g4
      simp only [Exit.inBlock]
      split
      · rename_i h; rw [if_pos h] at g4; exact ⟨s, C', g1, g2, g3, g4⟩
      · rename_i h; rw [if_neg h] at g4; exact ⟨s, C', g1, g2, g3, g4⟩
    | _ => exact ⟨s, C', g1, g2, g3, g4⟩)

theorem awp_cond {c : Operand} {x y : Code} {t : Bool} (hc : evalA (lk st.fr) c = some (.imm (.bool t))) (ht : t = true → AWP P W0 N x st Q) (hf : t = false → AWP P W0 N y st Q) : AWP P W0 N (.cond c x y) st Q := fun C a hr => by
  have h1 := rep_toV (v := .bool t) rfl (rep_eval (C := C) (a := a) (fun q _ av hav => hr.rep q av hav) hc)
  exact wp_cond_split h1 (fun h => ht h C a hr) (fun h => hf h C a hr)

theorem exists_least (p : Nat → Prop) (h : ∃ k, p k) : ∃ k, p k ∧ ∀ j, p j → k ≤ j := by
  obtain ⟨k, hk⟩ := h
  induction k using Nat.strongRecOn with
  | _ k ih =>
    by_cases hq : ∃ j, j < k ∧ p j
    · obtain ⟨j, h1, h2⟩ := hq
      exact ih j h1 h2
    · exact ⟨k, hk, fun j hj => by
        rcases Nat.lt_or_ge j k with h | h
        · exact absurd ⟨j, h, hj⟩ hq
        · exact h⟩

/-- A loop: what holds at each round's head, and what each round lowers. -/
theorem awp_loop {c : Code} (I : St → Prop) (μ : St → Nat) (h0 : I st)
    (round : ∀ s, I s → AWP P W0 N c s (Then (fun s1 => ∃ s2, Weak W0 N s1 s2 ∧ I s2 ∧ μ s2 < μ s) Q)) : AWP P W0 N (.loop c) st Q := fun C a hr => by
  classical
  -- the least measure of a state that fits
  let Fit : Act → World → Nat → Prop := fun a' w' k => ∃ s C', C'.w = w' ∧ Mem C C' ∧ Rel W0 N (lk s.fr) s.H C' a' ∧ I s ∧ μ s = k
  let m : Act → World → Nat := fun a' w' => if h : ∃ k, Fit a' w' k then Classical.choose (exists_least _ h) else 0
  refine wp_loop (fun a' w' => ∃ k, Fit a' w' k) m ⟨μ st, st, C, rfl, .refl C, hr, h0, rfl⟩ (fun a' w' hI => ?_)
  obtain ⟨s, C', g1, g2, g3, g4, g5⟩ := (Classical.choose_spec (exists_least _ hI)).1
  subst g1
  have hm : m a' C'.w = μ s := by rw [g5]; exact dif_pos hI
  refine wp_mono (AWP.at (round s g4) g2 g3) fun e a2 w2 ⟨s1, C2, q1, q2, q3, q4⟩ => ?_
  subst q1
  cases e with
  | normal =>
    obtain ⟨s2, hw, hI2, hlt⟩ := q4
    obtain ⟨C3, p1, p2, p3⟩ := hw C2 a2 q3
    have hf : Fit a2 C2.w (μ s2) := ⟨s2, C3, p1, q2.trans p2, p3, hI2, rfl⟩
    refine ⟨⟨_, hf⟩, ?_⟩
    rw [hm]
    have : m a2 C2.w ≤ μ s2 := by
      show (if h : ∃ k, Fit a2 C2.w k then Classical.choose (exists_least _ h) else 0) ≤ μ s2
      rw [dif_pos ⟨_, hf⟩]
      exact (Classical.choose_spec (exists_least _ ⟨_, hf⟩)).2 _ hf
    omega
  | _ => exact ⟨s1, C2, rfl, q2, q3, q4⟩

/-! ### Regions -/

def putL (fr : List (Nat × AV)) (dst : Option Nat) (r : AV) : List (Nat × AV) :=
  match dst with
  | some d => up fr d r
  | none => fr

theorem lk_putL (fr : List (Nat × AV)) (dst : Option Nat) (r : AV) : lk (putL fr dst r) = Fr.put (lk fr) dst r := by
  cases dst with
  | none => rfl
  | some d => funext t; simp only [putL, Fr.put, lk_up]

/-- The operations that are left, from a state, end in a state of which K holds. -/
def AR (P : Program) (W0 : World) (ops : Array Oper) (l : List Oper) (fr : List (Nat × AV)) (H : Heap) (K : List (Nat × AV) → Heap → Prop) : Prop :=
  ∃ fr' H', ARun P W0 ops l (lk fr) H (lk fr') H' ∧ K fr' H'

/-- The same, of what leaves the heap as it is. -/
def ARQ (P : Program) (W0 : World) (ops : Array Oper) (H : Heap) (l : List Oper) (fr : List (Nat × AV)) (K : List (Nat × AV) → Prop) : Prop :=
  ∃ fr', ARunQ P W0 ops H l (lk fr) (lk fr') ∧ K fr'

variable {ops : Array Oper} {fr : List (Nat × AV)} {H : Heap} {K : List (Nat × AV) → Heap → Prop} {KQ : List (Nat × AV) → Prop} {o : Oper} {rest : List Oper}

theorem AR.nil (h : K fr H) : AR P W0 ops [] fr H K := ⟨fr, H, .nil _ _, h⟩
theorem AR.op {r : AV} {H1 : Heap} (hw : wantA ops (lk fr) o = some true) (h : AOp P W0 o (lk fr) H r H1) (k : AR P W0 ops rest (putL fr o.dst r) H1 K) : AR P W0 ops (o :: rest) fr H K := by
  obtain ⟨fr', H', h1, h2⟩ := k
  rw [lk_putL] at h1
  exact ⟨fr', H', .op hw h h1, h2⟩
theorem AR.skip (hw : wantA ops (lk fr) o = some false) (k : AR P W0 ops rest (putL fr o.dst .any) H K) : AR P W0 ops (o :: rest) fr H K := by
  obtain ⟨fr', H', h1, h2⟩ := k
  rw [lk_putL] at h1
  exact ⟨fr', H', .skip hw h1, h2⟩
theorem AR.mono {K' : List (Nat × AV) → Heap → Prop} {l : List Oper} (h : AR P W0 ops l fr H K) (hk : ∀ f g, K f g → K' f g) : AR P W0 ops l fr H K' := by
  obtain ⟨fr', H', h1, h2⟩ := h
  exact ⟨fr', H', h1, hk _ _ h2⟩

theorem ARQ.nil (h : KQ fr) : ARQ P W0 ops H [] fr KQ := ⟨fr, .nil _, h⟩
theorem ARQ.op {r : AV} (hw : wantA ops (lk fr) o = some true) (h : AOp P W0 o (lk fr) H r H) (k : ARQ P W0 ops H rest (putL fr o.dst r) KQ) : ARQ P W0 ops H (o :: rest) fr KQ := by
  obtain ⟨fr', h1, h2⟩ := k
  rw [lk_putL] at h1
  exact ⟨fr', .op hw h h1, h2⟩
theorem ARQ.skip (hw : wantA ops (lk fr) o = some false) (k : ARQ P W0 ops H rest (putL fr o.dst .any) KQ) : ARQ P W0 ops H (o :: rest) fr KQ := by
  obtain ⟨fr', h1, h2⟩ := k
  rw [lk_putL] at h1
  exact ⟨fr', .skip hw h1, h2⟩

theorem awp_region {id : Nat} {l : List Oper} (hN : l.all (dstOk N) = true) (h : AR P W0 l.toArray l st.fr st.H (fun f g => Q .normal ⟨f, g⟩)) : AWP P W0 N (.region id l.toArray false) st Q := fun C a hr => by
  obtain ⟨fr', H', h1, h2⟩ := h
  exact wp_text (fun o ho => List.all_eq_true.1 hN o ho) h1 hr fun C' a' he hrel => ⟨⟨fr', H'⟩, C', rfl, he.mem, hrel, h2⟩

theorem awp_draw {id : Nat} {l : List Oper} (hm : P.follows .mixedOrders = true) (hB : Region.lexB .any l.toArray = true) (hN : l.all (dstOk N) = true) (h : ARQ P W0 l.toArray st.H l st.fr (fun f => Q .normal ⟨f, st.H⟩)) : AWP P W0 N (.region id l.toArray true) st Q := fun C a hr => by
  obtain ⟨fr', h1, h2⟩ := h
  exact wp_draw_all hm hB (fun o ho => List.all_eq_true.1 hN o ho) h1 hr fun C' a' he hrel => ⟨⟨fr', st.H⟩, C', rfl, he.mem, hrel, h2⟩

theorem awp_draw_tail {id : Nat} {l : List Oper} (n : Nat) (hm : P.follows .mixedOrders = true) (hB : Region.lexTailB .any l.toArray n = true) (hN : l.all (dstOk N) = true)
    (h : ARQ P W0 l.toArray st.H (l.take n) st.fr (fun f => AR P W0 l.toArray (l.drop n) f st.H (fun f g => Q .normal ⟨f, g⟩))) : AWP P W0 N (.region id l.toArray true) st Q := fun C a hr => by
  obtain ⟨fr1, h1, fr', H', h2, h3⟩ := h
  exact wp_draw_tail n hm hB (fun o ho => List.all_eq_true.1 hN o ho) h1 h2 hr fun C' a' he hrel => ⟨⟨fr', H'⟩, C', rfl, he.mem, hrel, h3⟩

/-! ### States that know less -/

/-- Some slots kept, all others forgotten. -/
theorem Weak.keep' {fr' : List (Nat × AV)} (h : ∀ p ∈ fr', lk st.fr p.1 = some p.2) : Weak W0 N st ⟨fr', st.H⟩ := fun C a hr =>
  ⟨C, rfl, .refl C, hr.heap, hr.inv, hr.size, hr.defers, fun t x hx => by
    have key : ∀ (l : List (Nat × AV)), lk l t = some x → (t, x) ∈ l := by
      intro l
      induction l with
      | nil => intro h; cases h
      | cons p l ih =>
        obtain ⟨s, u⟩ := p
        intro h
        simp only [lk] at h
        split at h
        · rename_i hs; subst hs; cases h; exact List.mem_cons_self ..
        · exact List.mem_cons_of_mem _ (ih h)
    exact hr.rep t x (h _ (key fr' hx))⟩

def Keeps (fr : List (Nat × AV)) : List (Nat × AV) → Prop
  | [] => True
  | (t, x) :: r => lk fr t = some x ∧ Keeps fr r

theorem Keeps.spec {fr : List (Nat × AV)} : ∀ {l : List (Nat × AV)}, Keeps fr l → ∀ p ∈ l, lk fr p.1 = some p.2
  | [], _, _, hp => by cases hp
  | (t, x) :: r, h, p, hp => by
    rcases List.mem_cons.1 hp with rfl | hp
    · exact h.1
    · exact Keeps.spec h.2 p hp

theorem Weak.keep {fr' : List (Nat × AV)} (h : Keeps st.fr fr') : Weak W0 N st ⟨fr', st.H⟩ := .keep' h.spec

/-- A loop, its states by their parameters. -/
theorem awp_loopS {c : Code} {σ : Type} (S : σ → St) (ok : σ → Prop) (μ : σ → Nat) (p0 : σ) (h0 : ok p0) (hw : Weak W0 N st (S p0))
    (round : ∀ p, ok p → AWP P W0 N c (S p) (Then (fun s1 => ∃ p', ok p' ∧ μ p' < μ p ∧ Weak W0 N s1 (S p')) Q)) : AWP P W0 N (.loop c) st Q := by
  classical
  refine AWP.weak hw ?_
  -- of two parameters with one state the lower counts
  refine awp_loop (fun s => ∃ p, ok p ∧ s = S p) (fun s => if h : ∃ k, ∃ p, ok p ∧ s = S p ∧ μ p = k then Classical.choose (exists_least _ h) else 0) ⟨p0, h0, rfl⟩ ?_
  rintro s ⟨p, hp, rfl⟩
  have hex : ∃ k, ∃ q, ok q ∧ S p = S q ∧ μ q = k := ⟨_, p, hp, rfl, rfl⟩
  obtain ⟨⟨q, hq, hs, hk⟩, _⟩ := Classical.choose_spec (exists_least _ hex)
  have hm : (if h : ∃ k, ∃ q, ok q ∧ S p = S q ∧ μ q = k then Classical.choose (exists_least _ h) else 0) = μ q := by rw [dif_pos hex, hk]
  rw [hm, hs]
  refine (round q hq).mono fun e s1 h1 => ?_
  cases e with
  | normal =>
    obtain ⟨p', g1, g2, g3⟩ := h1
    refine ⟨S p', g3, ⟨p', g1, rfl⟩, ?_⟩
    have hex' : ∃ k, ∃ q, ok q ∧ S p' = S q ∧ μ q = k := ⟨_, p', g1, rfl, rfl⟩
    have := (Classical.choose_spec (exists_least _ hex')).2 (μ p') ⟨p', g1, rfl, rfl⟩
    show (if h : ∃ k, ∃ q, ok q ∧ S p' = S q ∧ μ q = k then Classical.choose (exists_least _ h) else 0) < μ q
    rw [dif_pos hex']
    omega
  | _ => exact h1

theorem Weak.trans {s1 s2 s3 : St} (h : Weak W0 N s1 s2) (k : Weak W0 N s2 s3) : Weak W0 N s1 s3 := fun C a hr => by
  obtain ⟨C1, h1, h2, h3⟩ := h C a hr
  obtain ⟨C2, k1, k2, k3⟩ := k C1 a h3
  exact ⟨C2, k1.trans h1, h2.trans k2, k3⟩

theorem Weak.refl (s : St) : Weak W0 N s s := fun C _ hr => ⟨C, rfl, .refl C, hr⟩

end
end Go.Av
