/- What a proof sees of a run, and the rules by which it goes through a text. -/
import Derived.Test.YtcnkohookgfpoaaBase1
import Derived.KernelRfl
import Derived.Test.YtcnkohookgfpoaaBase
import Derived.Carry
import Derived.ProofKit
import Derived.OpenShut
import Derived.Lib.LaidTab
set_option linter.unusedSimpArgs false
set_option linter.unusedVariables false
section
/- Ranges over functions: the statement, its rounds, and the calls of yield. -/
namespace Go.Av

/-- The range over a function that comes as the k-th in a text. -/
def rangesOf : Code → List (Array Tmp × Code × Code)
  | .seq a b => rangesOf a ++ rangesOf b
  | .cond _ a b => rangesOf a ++ rangesOf b
  | .block _ c => rangesOf c
  | .loop c => rangesOf c
  | .scope c => rangesOf c
  | .rangeFunc _ ps a b => (ps, a, b) :: (rangesOf a ++ rangesOf b)
  | _ => []

/-- A record of that range, ready for a round. -/
structure RecAt (rec : Loop) (fn : Func) (k N : Nat) : Prop where
  ready : rec.state = .ready
  none : rec.pending = none
  code : (fn.body.bind fun c => (rangesOf c)[k]?) = some (rec.params, rec.assign, rec.body)
  size : rec.tmps.size = N

/-- Whether it goes on, or has been left by a jump. -/
def lpst (rec : Loop) (j : Code) : Bool → Loop
  | true => rec
  | false => { rec with state := .done, pending := some j }

/-- The record behind a round. -/
def endRec (rec : Loop) : Option Code → Loop
  | none => rec
  | some c => lpst rec c false

theorem RecAt.params {rec : Loop} {fn : Func} {k N : Nat} {ps : Array Tmp} {as bd : Code} (h : RecAt rec fn k N) (hc : (fn.body.bind fun c => (rangesOf c)[k]?) = some (ps, as, bd)) : rec.params = ps := by
  have := h.code
  rw [hc] at this
  simp only [Option.some.injEq, Prod.mk.injEq] at this
  exact this.1.symm

theorem RecAt.endRec {rec : Loop} {fn : Func} {k N : Nat} (h : RecAt rec fn k N) (j : Option Code) : ({ rec with state := if j.isNone then .ready else .done, pending := j } : Loop) = endRec rec j := by
  have h1 := h.ready
  have h2 := h.none
  cases rec
  simp only at h1 h2
  subst h1 h2
  cases j <;> rfl

/-- What an iterator leans on: what the rounds' frame holds. -/
def Base.it (W : World) (p : Nat) (rec : Loop) (frl : List (Nat × AV)) : Base where
  w := W
  p := p
  ro := none
  G C := C.pin = p ∧ ∀ t x, lk frl t = some x → Under p x ∧ Rep C x (rec.tmps.getD t undef)
  st C C' hM hp h := ⟨hM.pin.trans h.1, fun t x hx => ⟨(h.2 t x hx).1, (h.2 t x hx).2.mem hM hp (by rw [h.1]; exact (h.2 t x hx).1)⟩⟩

/-- What a round leans on. -/
def Base.rd (W : World) (p : Nat) (l : Nat) : Base := ⟨W, p, some l, fun _ => True, fun _ _ _ _ _ => trivial⟩

section
variable {P : Program} {W0 : Base} {C : Ctx} {fr : Fr} {a : Act} {H : Heap} {o : Oper} {N : Nat}

/-- A block that is no cells turns. -/
theorem poke {C' : Ctx} (hI : Inv W0 C) {b : Nat} (hb : C.sp b) {ob : Obj} (hw : C'.w = C.w.putObj b ob) (hobjs : C'.H.objs = C.H.objs) (hnext : C'.H.next = C.H.next) (hpl : C'.pl = C.pl) (hprot : C'.prot = C.prot) (hpin : C'.pin = C.pin)
    (hsp : ∀ b, C'.sp b → C.sp b) (hlps : ∀ l r, lk C'.H.lps l = some r → C'.w.heap[l]? = some (.loop r)) (hdfs : ∀ d, d ∈ C'.dfs → C'.w.heap[d]? = some (.deferred (some []))) (hdnd : C'.dfs.Nodup) (hrod : ∀ l, W0.ro = some l → C'.dfs = []) :
    Mem C C' ∧ Inv W0 C' ∧ ∀ x v, Rep C x v → Rep C' x v := by
  obtain ⟨ob0, hd, hnc⟩ := hI.sp_heap hb
  have hsz : C'.w.heap.size = C.w.heap.size := by rw [hw]; simp
  have hne : ∀ q, q ≠ b → C'.w.heap[q]? = C.w.heap[q]? := fun q hq => by rw [hw]; exact World.putObj_heap_other hq
  have hcell : ∀ {q : Nat} {arr : Array Value} {el : TypeId} {fz : Nat × Nat}, C.w.heap[q]? = some (.cells arr el fz) → q ≠ b := fun {q arr el fz} h hq => by
    subst hq; rw [hd] at h; exact hnc _ _ _ (Option.some.inj h)
  have hget : ∀ id, C'.H.get id = C.H.get id := fun id => by simp [Heap.get, hobjs]
  have hown : ∀ q, C'.own q → C.own q := by
    rintro q (⟨id, es, h1, h2, h3⟩ | h)
    · exact .inl ⟨id, es, by rw [← hget]; exact h1, by rw [← hpl]; exact h2, by rw [← hpl]; exact h3⟩
    · exact .inr (hsp q h)
  have hbad : ∀ q, C'.bad q → C.bad q := fun q h => h.imp (hown q) (fun h => by rw [← hprot]; exact h)
  have hM : Mem C C' := ⟨by rw [hw]; exact ⟨rfl, rfl, rfl, by simp, fun k hk => absurd hk (Nat.not_lt_zero k)⟩, fun q _ hq => hne q (fun h => hq (.inr (h ▸ hb))), fun q _ h => hown q h, hprot, hpin, fun hp => ⟨by rw [hpin, hnext]; exact hp, fun k es' _ hg => ⟨⟨es', by rw [← hget]; exact hg⟩, by rw [hpl]⟩⟩⟩
  have hholds : ∀ {q i : Nat} {v : Value}, Holds C.w q i v → Holds C'.w q i v := fun {q i v} h => by
    refine ⟨?_, h.2⟩
    have hq : q ≠ b := fun hq => by
      subst hq
      have := h.1
      unfold World.cell? at this
      rw [hd] at this
      cases ob0 <;> first | exact hnc _ _ _ rfl | (simp at this)
    rw [World.cell?_of_block (w := C.w) (a := ⟨q, i, none⟩) (hne q hq)]
    exact h.1
  have hrep : ∀ x v, Rep C x v → Rep C' x v := by
    intro x v h
    induction h with
    | any v => exact .any v
    | imm v hv => exact .imm v hv
    | slNil a cap => exact .slNil a cap
    | sl es q off sz cap c hlt hbd hc hf hcell _ ih => exact .sl es q off sz cap c (by rw [hsz]; exact hlt) (fun h => hbd (hbad q h)) hc hf (fun i j e x he hx => hholds (hcell i j e x he hx)) ih
    | clipNil a => exact .clipNil a
    | clip es q off sz c hlt hbd hf hcell _ ih => exact .clip es q off sz c (by rw [hsz]; exact hlt) (fun h => hbd (hbad q h)) hf (fun i j e x he hx => hholds (hcell i j e x he hx)) ih
    | view id off len v hid hs h1 => exact .view id off len v (by rw [hnext]; exact hid) (fun es he => by rw [hpl]; exact hs es (by rw [← hget]; exact he)) h1
    | ref id i j v hid hs h1 => exact .ref id i j v (by rw [hnext]; exact hid) (fun es he => by rw [hpl]; exact hs es (by rw [← hget]; exact he)) h1
    | pp fl j q off c hlt hbd hcell _ ih => exact .pp fl j q off c (by rw [hsz]; exact hlt) (fun h => hbd (hbad q h)) (fun k x hx => hholds (hcell k x hx)) ih
    | agg cs vs hs h1 _ ih => exact .agg cs vs hs h1 ih
    | tuple cs vs hs _ ih => exact .tuple cs vs hs ih
    | ifc t x v _ ih => exact .ifc t x v ih
    | clo fn caps vs hs _ ih => exact .clo fn caps vs hs ih
  refine ⟨hM, ?_, hrep⟩
  exact {
    fresh := fun id es h => by rw [hnext]; exact hI.fresh id es (by rw [← hget]; exact h)
    nil := fun id es h hn => hI.nil id es (by rw [← hget]; exact h) (by rw [← hpl]; exact hn)
    obj := fun id es h hn => by
      rw [hget] at h; rw [hpl] at hn ⊢
      have hO := hI.obj id es h hn
      obtain ⟨arr, el, h1, h2⟩ := hO.blk
      have hq := hcell h1
      have hc : ∀ o, C'.w.cell? ⟨(C.pl id).blk, o, none⟩ = C.w.cell? ⟨(C.pl id).blk, o, none⟩ := fun o => World.cell?_of_block (w := C.w) (a := ⟨_, o, none⟩) (hne _ hq)
      exact ⟨hO.n, hO.cap, ⟨arr, el, by rw [← h1]; exact hne _ hq, h2⟩, fun o v hv => hO.one o v (by rw [← hc o]; exact hv), hO.flat, fun i j e x v h1 h2 h3 => hrep _ _ (hO.cell i j e x v h1 h2 (by rw [← hc]; exact h3))⟩
    sep := fun i1 i2 e1 e2 h1 h2 h3 h4 h5 => hI.sep i1 i2 e1 e2 (by rw [← hget]; exact h1) (by rw [← hget]; exact h2) (by rw [← hpl]; exact h3) (by rw [← hpl]; exact h4) (by rw [← hpl]; exact h5)
    prot := fun id es h hn hp => hI.prot id es (by rw [← hget]; exact h) (by rw [← hpl]; exact hn) (by rw [hprot, hpl] at hp; exact hp)
    szok := fun id s h hn => by
      rw [hpl] at hn ⊢
      exact hI.szok id s (by simpa [Heap.sz, hobjs] using h) hn
    protlt := fun q h => by rw [hsz]; exact hI.protlt q (by rw [← hprot]; exact h)
    protge := fun q h => hI.protge q (by rw [← hprot]; exact h)
    size := by rw [hsz]; exact hI.size
    glob := fun q h => ⟨by
      rw [← (hI.glob q h).1]
      exact hne q (fun hq => (hI.glob q h).2 (.inr (hq ▸ hb))), fun ho => (hI.glob q h).2 (hown q ho)⟩
    lps := hlps
    dfs := hdfs
    dnd := hdnd
    rod := hrod
    spprot := fun q h hp => hI.spprot q (hsp q h) (by rw [← hprot]; exact hp)
    pinB := by rw [hpin]; exact hI.pinB
    pinlt := by rw [hpin, hnext]; exact hI.pinlt
    gh := W0.st C C' hM hI.pinlt hI.gh }

/-- The record turns. -/
def Ctx.turn (C : Ctx) (l : Nat) (r : Loop) : Ctx := { C with w := C.w.putObj l (.loop r), H := { C.H with lps := [(l, r)] } }

theorem rec_turns (hI : Inv W0 C) {l : Nat} {r0 : Loop} (r : Loop) (hl : C.H.lps = [(l, r0)]) : Mem C (C.turn l r) ∧ Inv W0 (C.turn l r) ∧ ∀ x v, Rep C x v → Rep (C.turn l r) x v := by
  have h0 : C.w.heap[l]? = some (.loop r0) := hI.lps l r0 (by rw [hl]; simp [lk])
  have hlt : l < C.w.heap.size := (Array.getElem?_eq_some_iff.1 h0).1
  refine poke (C' := C.turn l r) hI (b := l) (.inl ⟨r0, by rw [hl]; simp [lk]⟩) (ob := .loop r) rfl rfl rfl rfl rfl rfl (fun b h => ?_) (fun l' r' h => ?_) (fun d h => ?_) hI.dnd hI.rod
  · rcases h with ⟨r', h⟩ | h
    · simp only [Ctx.turn, lk] at h
      split at h
      · rename_i hb; subst hb; exact .inl ⟨r0, by rw [hl]; simp [lk]⟩
      · cases h
    · exact .inr h
  · simp only [Ctx.turn, lk] at h
    split at h
    · rename_i hb; subst hb; cases h; exact World.putObj_heap_same hlt
    · cases h
  · have h1 := hI.dfs d h
    rw [← h1]
    refine World.putObj_heap_other (fun hd => ?_)
    rw [hd, h0] at h1; cases h1

/-! ### A round -/

/-- What a round does. -/
def Round3 (P : Program) (W : World) (p : Nat) (l : Nat) (rec : Loop) (frl : List (Nat × AV)) (xs : List AV) (Hin : Heap) (b : Bool) (Hout : Heap) : Prop :=
  ∀ (C : Ctx) (vals : Array Value), Inv (.rd W p l) C → C.H = Hin → vals.size = xs.length → (∀ (k : Nat) (x : AV), xs[k]? = some x → Rep C x (vals.getD k undef)) →
    (∀ t x, lk frl t = some x → Rep C x (rec.tmps.getD t undef)) →
    RoundIn Fence.wide 0 P l rec.fn ((rec.params.zip vals).foldl (fun tmps (t, a) => tmps.setIfInBounds t a) rec.tmps) rec.assign rec.body C.w
      (fun e w' => ∃ C', e = .returned (.bool b) ∧ C'.w = w' ∧ Mem C C' ∧ Inv (.rd W p l) C' ∧ C'.H = Hout)

/-- The jump by which a round ends. -/
def jumpOf : Exit → Option (Option Code)
  | .normal => some none
  | .ret => some (some .ret)
  | .exit id => some (some (.exit id))
  | .goto t => some (some (.goto t))
  | _ => none

theorem foldl_set_size (l : List (Nat × Value)) (tm : Array Value) : (l.foldl (fun tmps (t, a) => tmps.setIfInBounds t a) tm).size = tm.size := by
  induction l generalizing tm with
  | nil => rfl
  | cons p l ih => simp [ih]

/-- A slot of a round's frame: of what is handed over, or as it was. -/
theorem foldl_set_get (l : List (Nat × Value)) (tm : Array Value) (t : Nat) :
    (∃ (k : Nat) (v : Value), l[k]? = some (t, v) ∧ (l.foldl (fun tmps (t, a) => tmps.setIfInBounds t a) tm).getD t undef = (if t < tm.size then v else undef)) ∨
    ((∀ q ∈ l, q.1 ≠ t) ∧ (l.foldl (fun tmps (t, a) => tmps.setIfInBounds t a) tm).getD t undef = tm.getD t undef) := by
  induction l generalizing tm with
  | nil => exact .inr ⟨fun q h => (by cases h), rfl⟩
  | cons p l ih =>
    obtain ⟨s, u⟩ := p
    rcases ih (tm.setIfInBounds s u) with ⟨k, v, h1, h2⟩ | ⟨h1, h2⟩
    · left
      refine ⟨k + 1, v, by simpa using h1, ?_⟩
      simp only [List.foldl_cons]
      rw [h2]; simp
    · by_cases hs : s = t
      · subst hs
        left
        refine ⟨0, u, rfl, ?_⟩
        simp only [List.foldl_cons]
        rw [h2]
        by_cases hlt : s < tm.size
        · simp [hlt, Array.getD]
        · simp [hlt, Array.getD]
      · right
        refine ⟨fun q hq => ?_, ?_⟩
        · rcases List.mem_cons.1 hq with rfl | hq
          · exact hs
          · exact h1 q hq
        · simp only [List.foldl_cons]
          rw [h2]
          simp only [Array.getD_eq_getD_getElem?]
          rw [Array.getElem?_setIfInBounds_ne hs]

/-- The frame in which a round begins. -/
def roundFr (ps : List Nat) (xs : List AV) (frl : List (Nat × AV)) : List (Nat × AV) := ps.zip xs ++ frl

theorem round3_of_awp {W : World} {p l N k : Nat} {rec : Loop} {fn : Func} {frl : List (Nat × AV)} {xs : List AV} {Hin Hout : Heap} {b : Bool} {ps : Array Tmp} {as bd : Code} (hrec : RecAt rec fn k N) (hcode : (fn.body.bind fun c => (rangesOf c)[k]?) = some (ps, as, bd))
    (hlp : Hin.lps = [(l, rec)]) (hxs : xs.length = ps.size) (hN : ps.toList.all (fun t => decide (t < N)) = true) (hnd : ps.toList.Nodup)
    (h : AWP P (.rd W p l) N as ⟨roundFr ps.toList xs frl, Hin⟩ (fun e s => e = .normal ∧ s.H.lps = [(l, rec)] ∧
      AWP P (.rd W p l) N bd ⟨s.fr, { s.H with lps := [(l, { rec with state := .busy })] }⟩ (fun e s => s.H.lps = [(l, { rec with state := .busy })] ∧ ∃ j, jumpOf e = some j ∧ b = j.isNone ∧
        Weak (.rd W p l) 0 ⟨[], { s.H with lps := [(l, endRec rec j)] }⟩ ⟨[], Hout⟩))) :
    Round3 P W p l rec frl xs Hin b Hout := by
  intro C vals hI hH hsz hrep hrl
  have hc := hrec.code
  rw [hcode] at hc
  simp only [Option.some.injEq, Prod.mk.injEq] at hc
  obtain ⟨rfl, rfl, rfl⟩ := hc
  have hzip : ∀ (i : Nat) (t : Nat) (v : Value), (rec.params.zip vals).toList[i]? = some (t, v) → rec.params.toList[i]? = some t ∧ vals.toList[i]? = some v := fun i t v h => by
    rw [Array.toList_zip, List.getElem?_zip_eq_some] at h
    exact h
  have hfold : (rec.params.zip vals).foldl (fun tmps (t, a) => tmps.setIfInBounds t a) rec.tmps = (rec.params.zip vals).toList.foldl (fun tmps (t, a) => tmps.setIfInBounds t a) rec.tmps := by
    rw [← Array.foldl_toList]
  have hsize : ((rec.params.zip vals).foldl (fun tmps (t, a) => tmps.setIfInBounds t a) rec.tmps).size = N := by
    rw [hfold, foldl_set_size, hrec.size]
  have hrel : Rel (.rd W p l) N (lk (roundFr rec.params.toList xs frl)) Hin C { tmps := (rec.params.zip vals).foldl (fun tmps (t, a) => tmps.setIfInBounds t a) rec.tmps, defers := [] } := by
    refine ⟨hH, hI, hsize, by have := hI.rod l rfl; simp [this], fun t x hx => ?_⟩
    show Rep C x (((rec.params.zip vals).foldl (fun tmps (t, a) => tmps.setIfInBounds t a) rec.tmps).getD t undef)
    rw [hfold]
    simp only [roundFr] at hx
    rw [lk_append] at hx
    rcases foldl_set_get (rec.params.zip vals).toList rec.tmps t with ⟨i, v, h1, h2⟩ | ⟨h1, h2⟩
    · rw [h2]
      obtain ⟨q1, q2⟩ := hzip i t v h1
      have htN : t < rec.tmps.size := by
        rw [hrec.size]
        have := List.all_eq_true.1 hN t (List.mem_of_getElem? q1)
        simpa using this
      rw [if_pos htN]
      have hix : i < xs.length := by rw [hxs]; simpa using (List.getElem?_eq_some_iff.1 q1).1
      have hz : lk (rec.params.toList.zip xs) t = some xs[i] := by
        have key : ∀ (ps : List Nat) (xs : List AV) (i : Nat) (x : AV), ps.Nodup → ps[i]? = some t → xs[i]? = some x → lk (ps.zip xs) t = some x := by
          intro ps
          induction ps with
          | nil => intro xs i x _ h; simp at h
          | cons q ps ih =>
            intro xs i x hn hq hy
            cases xs with
            | nil => simp at hy
            | cons y ys =>
              cases i with
              | zero => simp at hq hy; subst hy; rw [hq]; simp [lk]
              | succ i =>
                simp at hq hy
                have hne : q ≠ t := fun he => (List.nodup_cons.1 hn).1 (he ▸ List.mem_of_getElem? hq)
                simp only [List.zip_cons_cons, lk]
                rw [if_neg hne]
                exact ih ys i x (List.nodup_cons.1 hn).2 hq hy
        exact key _ _ i _ hnd q1 (List.getElem?_eq_getElem hix)
      rw [hz] at hx
      simp only [Option.some.injEq] at hx
      subst hx
      have := hrep i xs[i] (List.getElem?_eq_getElem hix)
      have hv : vals.getD i undef = v := by
        have : vals[i]? = some v := by simpa using q2
        simp [Array.getD_eq_getD_getElem?, this]
      rwa [hv] at this
    · rw [h2]
      have hz : lk (rec.params.toList.zip xs) t = none := by
        have key : ∀ (ps : List Nat) (xs : List AV), (∀ q ∈ ps, q ≠ t) → lk (ps.zip xs) t = none := by
          intro ps
          induction ps with
          | nil => intro xs _; rfl
          | cons q ps ih =>
            intro xs hq
            cases xs with
            | nil => rfl
            | cons y ys =>
              simp only [List.zip_cons_cons, lk]
              rw [if_neg (hq q (List.mem_cons_self ..))]
              exact ih ys (fun r hr => hq r (List.mem_cons_of_mem _ hr))
        refine key _ _ (fun q hq => ?_)
        obtain ⟨i, hi⟩ := List.getElem?_of_mem hq
        have hil : i < vals.toList.length := by
          have := (List.getElem?_eq_some_iff.1 hi).1
          simp at this ⊢; omega
        have hm : (q, vals.toList[i]) ∈ (rec.params.zip vals).toList := by
          rw [Array.toList_zip]
          refine List.mem_of_getElem? (i := i) ?_
          rw [List.getElem?_zip_eq_some]
          exact ⟨hi, List.getElem?_eq_getElem hil⟩
        exact h1 _ hm
      rw [hz] at hx
      exact hrl t x hx
  refine roundIn_of_wpIn trivial (wpIn_mono (h C _ hrel) fun e a1 w1 ⟨s, C1, g1, g2, g3, g4⟩ => ?_)
  obtain ⟨rfl, hs1, hbody⟩ := g4
  subst g1
  have hl1 : C1.w.heap[l]? = some (.loop rec) := g3.inv.lps l rec (by rw [g3.heap, hs1]; simp [lk])
  obtain ⟨m1, i1, r1⟩ := rec_turns g3.inv { rec with state := .busy } (by rw [g3.heap]; exact hs1)
  refine ⟨C1.w.putObj l (.loop { rec with state := .busy }), run_beginRound hl1 hrec.ready, ?_⟩
  have hrel1 : Rel (.rd W p l) N (lk s.fr) { s.H with lps := [(l, { rec with state := .busy })] } (C1.turn l { rec with state := .busy }) a1 :=
    ⟨by simp only [Ctx.turn, g3.heap], i1, g3.size, g3.defers, fun t x hx => r1 _ _ (g3.rep t x hx)⟩
  refine wpIn_mono (hbody _ _ hrel1) fun e a2 w2 ⟨s2, C2, q1, q2, q3, q4, j, q5, q6, q7⟩ => ?_
  subst q1
  have hl2 : C2.w.heap[l]? = some (.loop { rec with state := .busy }) := q3.inv.lps l _ (by rw [q3.heap, q4]; simp [lk])
  rw [← hrec.endRec] at q7
  obtain ⟨m2, i2, r2⟩ := rec_turns q3.inv { rec with state := if j.isNone then .ready else .done, pending := j } (by rw [q3.heap]; exact q4)
  have fin : ∃ v w', (Instr.endRound l j).run P C2.w = .ok v w' ∧ ∃ C', Ending.returned v = .returned (.bool b) ∧ C'.w = w' ∧ Mem C C' ∧ Inv (.rd W p l) C' ∧ C'.H = Hout := by
    obtain ⟨C3, p1, p2, p3⟩ := q7 (C2.turn l { rec with state := if j.isNone then .ready else .done, pending := j }) { tmps := #[], defers := [] } ⟨by simp only [Ctx.turn, q3.heap], i2, rfl, by rw [i2.rod l rfl]; rfl, fun t x hx => by simp [lk] at hx⟩
    refine ⟨_, _, run_endRound j hl2, C3, by rw [q6], ?_, g2.trans (m1.trans (q2.trans (m2.trans p2))), p3.inv, p3.heap⟩
    rw [p1]
    rfl
  cases e with
  | normal => simp only [jumpOf, Option.some.injEq] at q5; subst q5; exact fin
  | ret => simp only [jumpOf, Option.some.injEq] at q5; subst q5; exact fin
  | exit id => simp only [jumpOf, Option.some.injEq] at q5; subst q5; exact fin
  | goto t => simp only [jumpOf, Option.some.injEq] at q5; subst q5; exact fin
  | panic c => simp [jumpOf] at q5
  | outgrown => simp [jumpOf] at q5

/-- What is seen hangs on the objects alone. -/
theorem see_lps {Hs Ht : Heap} {g : List (Nat × Nat)} {nw : List Nat} {x x' : AV} (ho : Hs.objs = Ht.objs) (h : See Hs g nw x x') : See Ht g nw x x' := by
  have hget : ∀ id, Hs.get id = Ht.get id := fun id => by simp [Heap.get, ho]
  induction h with
  | same x h => exact .same x h
  | any x => exact .any x
  | view h => exact .view h
  | viewL h h2 => exact .viewL h h2
  | ref h => exact .ref h
  | nil h => exact .nil h
  | lend h1 h2 h3 h4 => exact .lend (by rw [← hget]; exact h1) h2 h3 h4
  | agg cs cs' hl _ ih => exact .agg cs cs' hl ih
  | tuple cs cs' hl _ ih => exact .tuple cs cs' hl ih
  | clo fn cs cs' hl _ ih => exact .clo fn cs cs' hl ih
  | ifc t x x' _ ih => exact .ifc t x x' ih
  | wide es h => exact .wide es h
  | nilsl => exact .nilsl
  | frz h1 h2 h3 h4 h5 => exact .frz (by rw [← hget]; exact h1) h2 h3 h4 h5
theorem seen_lps' {Hs Ht : Heap} {g : List (Nat × Nat)} {nw : List Nat} {fr : List (Nat × AV)} (ho : Hs.objs = Ht.objs) : ∀ {l : List (Nat × AV)}, Seen Hs g nw fr l → Seen Ht g nw fr l
  | [], _ => trivial
  | _ :: _, ⟨⟨x, h1, h2⟩, h3⟩ => ⟨⟨x, h1, see_lps ho h2⟩, seen_lps' ho h3⟩
theorem seen_lps {Hs : Heap} {g : List (Nat × Nat)} {nw : List Nat} {fr : List (Nat × AV)} {l : List (Nat × AV)} {ll : List (Nat × Loop)} (h : Seen { Hs with lps := [] } g nw fr l) : Seen { Hs with lps := ll } g nw fr l := seen_lps' (Hs := { Hs with lps := [] }) (Ht := { Hs with lps := ll }) rfl h

/-! ### A call of yield -/

/-- A call of yield: the round. -/
theorem aop_yield3 {ok : AV → Prop} {args : Array Operand} {tys : Array TypeId} {f : Operand} {ys xs : List AV} {Hs Hin Hout H' : Heap} {g m : List (Nat × Nat)} {nw : List Nat} {p l k N : Nat} {rec : Loop} {fn : Func} {b : Bool} {frl : List (Nat × AV)} {W : World}
    (ho : o.op = .call { callee := .value f, args := args, argTypes := tys }) (hf : evalA fr f = some (.clo (.yield l) [])) (hys : args.toList.mapM (evalA fr) = some ys)
    (hround : Round3 P W p l rec frl xs Hin b Hout) (hrec : RecAt rec fn k N) (hlp : Hs.lps = [(l, rec)]) (hps : rec.params.size = ys.length)
    (h : Pass ok (argsFr 0 ys) (argsFr 0 xs) H Hs Hin Hout H' g m nw p (.imm (.bool b)) (.imm (.bool b))) (hl : xs.length = ys.length) (hg : (List.range p).all (fun k => lk g k == some k) = true) (hnp : (List.range p).all (fun k => !nw.contains k) = true) :
    AOpI P (.it W p rec frl) o fr H (.imm (.bool b)) H' := by
  intro C a hI hH hop K Q hK
  have hopy : ∀ y ∈ args.toList, RepO C fr a y := fun y hy => hop y (by rw [ho]; simp [Op.operands, Call.operands]; exact .inr (by simpa using hy))
  have hr0 := args_rep hopy hys
  have h1 := h.into hI hH hr0.1 hr0.2
  have h2 : Inv (.rd W p l) (C.sub Hs Hin g p) := h1.inv.repin (W0 := .it W p rec frl) rfl rfl (of_decide_eq_true h.ple) rfl trivial
  have hfv : a.eval f = .func (.yield l) #[] #[] := by
    have hmem : f ∈ o.op.operands := by rw [ho]; simp [Op.operands, Call.operands]
    have := rep_eval (hop f hmem) hf
    generalize a.eval f = v at this
    cases this with
    | clo _ _ vs hs _ =>
      have : vs = #[] := Array.eq_empty_of_size_eq_zero (by simpa using hs)
      rw [this]
  have hlr : C.w.heap[l]? = some (.loop rec) := hI.lps l rec (by
    have := h.isPart.lps l rec (by rw [hlp]; simp [lk])
    rw [hH]; exact this)
  have hyr := run_yield (P := P) (args := args.map a.eval) hlr (by rw [hr0.1]; exact hps.symm)
  have hrun : (execOp a.eval o).run P C.w = .ok (.round l rec.fn ((rec.params.zip (args.map a.eval)).foldl (fun tmps (t, a) => tmps.setIfInBounds t a) rec.tmps) rec.assign rec.body) C.w := by
    simp only [execOp, ho, resolve, hfv, Deferred.ofValue]
    simpa [invoke] using hyr
  -- what the rounds' frame holds, as the callee sees it
  have hfrl : ∀ t x, lk frl t = some x → Rep (C.sub Hs Hin g p) x (rec.tmps.getD t undef) := fun t x hx => by
    obtain ⟨hu, hr⟩ := hI.gh.2 t x hx
    have hp := h.isPart
    rw [← hH] at hp
    have hle : p ≤ Hin.next := of_decide_eq_true h.ple
    have key : ∀ x v, Under p x → Rep C x v → Rep (C.sub Hs Hin g p) x v := by
      intro x v hu hr
      have hbad : ∀ b, (C.sub Hs Hin g p).bad b → C.bad b := fun b hb => by
        have hb2 : ((C.hide Hs).re g Hin).bad b := hb
        rcases hb2 with hb2 | hb2
        · refine .inl ?_
          rcases hb2 with ⟨n, es', q1, q2, q3⟩ | ⟨r, q⟩ | q
          · obtain ⟨⟨s, e⟩, q4, q5⟩ := Option.map_eq_some_iff.1 (show (lk Hin.objs n).map (·.2) = some es' from q1)
            rcases (h.held.spec q4).1 with ⟨old, es, w1, w2, _⟩ | ⟨w, _⟩
            · have hpl : ((C.hide Hs).re g Hin).pl n = C.pl old := by simp [Ctx.re, Ctx.hide, w1]
              rw [hpl] at q2 q3
              refine .inl ⟨old, es, ?_, q2, q3⟩
              have := hp.objs old _ w2
              simp [Heap.get, this]
            · have hno : lk g n = none := by
                have := List.all_eq_true.1 h.nwf n w
                simp at this; exact this.1
              have hpl : ((C.hide Hs).re g Hin).pl n = ⟨0, 0, 0, 0, true⟩ := by simp [Ctx.re, hno]
              rw [hpl] at q2; cases q2
          · exact .inr (.inl ⟨r, hp.lps b r (by rw [← h.inlps]; exact q)⟩)
          · simp [Ctx.re, Ctx.hide] at q
        · rcases hb2 with hb2 | hb2
          · exact .inr hb2
          · exact .inl hb2.1
      have hids : ∀ id, id < p → ∀ es', Hin.get id = some es' → ∃ es, C.H.get id = some es ∧ (C.sub Hs Hin g p).pl id = C.pl id := fun id hid es' hes => by
        obtain ⟨⟨s, e⟩, q4, q5⟩ := Option.map_eq_some_iff.1 (show (lk Hin.objs id).map (·.2) = some es' from hes)
        have hgi : lk g id = some id := by
          have := List.all_eq_true.1 hg id (List.mem_range.2 hid)
          simpa using this
        rcases (h.held.spec q4).1 with ⟨old, es, w1, w2, _⟩ | ⟨w, _⟩
        · rw [hgi] at w1; cases w1
          have := hp.objs id _ w2
          exact ⟨es, by simp [Heap.get, this], by simp [Ctx.sub, Ctx.re, Ctx.hide, hgi]⟩
        · have := List.all_eq_true.1 hnp id (List.mem_range.2 hid)
          simp at this; exact absurd w this
      induction hr with
      | any v => exact .any v
      | imm v hv => exact .imm v hv
      | slNil a cap => exact .slNil a cap
      | sl es b off sz cap c hlt hn hc hf hcell _ ih =>
        cases hu with
        | sl _ hu => exact .sl es b off sz cap c hlt (fun h => hn (hbad b h)) hc hf hcell (fun i j e x he hx => ih i j e x he hx (hu e (List.mem_of_getElem? he) x (List.mem_of_getElem? hx)))
      | clipNil a => exact .clipNil a
      | clip es b off sz c hlt hn hf hcell _ ih =>
        cases hu with
        | clip _ hu => exact .clip es b off sz c hlt (fun h => hn (hbad b h)) hf hcell (fun i j e x he hx => ih i j e x he hx (hu e (List.mem_of_getElem? he) x (List.mem_of_getElem? hx)))
      | view id off len v hid hs h1 =>
        cases hu with
        | view _ _ _ hu =>
        refine .view id off len v (Nat.lt_of_lt_of_le hu hle) (fun es he => ?_) h1
        obtain ⟨es0, q1, q2⟩ := hids id hu es he
        rw [q2]; exact hs es0 q1
      | ref id i j v hid hs h1 =>
        cases hu with
        | ref _ _ _ hu =>
        refine .ref id i j v (Nat.lt_of_lt_of_le hu hle) (fun es he => ?_) h1
        obtain ⟨es0, q1, q2⟩ := hids id hu es he
        rw [q2]; exact hs es0 q1
      | pp fl j b off c hlt hn hcell _ ih =>
        cases hu with
        | pp _ _ hu => exact .pp fl j b off c hlt (fun h => hn (hbad b h)) hcell (fun k x hx => ih k x hx (hu x (List.mem_of_getElem? hx)))
      | agg cs vs hs h1 _ ih => cases hu with | agg _ hu => exact .agg cs vs hs h1 (fun k x hx => ih k x hx (hu x (List.mem_of_getElem? hx)))
      | tuple cs vs hs _ ih => cases hu with | tuple _ hu => exact .tuple cs vs hs (fun k x hx => ih k x hx (hu x (List.mem_of_getElem? hx)))
      | ifc t x v _ ih => cases hu with | ifc _ _ hu => exact .ifc t x v (ih hu)
      | clo fn caps vs hs _ ih => cases hu with | clo _ _ hu => exact .clo fn caps vs hs (fun k x hx => ih k x hx (hu x (List.mem_of_getElem? hx)))
    exact key x _ hu hr
  refine ⟨fun _ _ => trivial, ?_⟩
  show o.uponIn Fence.wide 0 P a K Q ((execOp a.eval o).run P C.w)
  rw [hrun]
  refine ⟨fun hd => by simp [Fence.wide] at hd, ?_⟩
  refine (hround (C.sub Hs Hin g p) (args.map a.eval) h2 rfl (by rw [hl]; exact hr0.1) (fun k x hx => rep_pin (rel_args h1 k x hx)) hfrl).mono ?_
  rintro e w' ⟨C2, rfl, rfl, hM, hI2, hH2⟩
  obtain ⟨q1, q2, q3⟩ := h.outof (W0 := .it W p rec frl) (B1 := .rd W p l) hI hH rfl hM hI2 hH2 (hI2.rod l rfl)
  exact hK _ (C.back C2 H') q1 q2 rfl (q3 _ (.imm _ rfl))

/-! ### The statement -/

/-- The record laid, and the block for what is put off. -/
def Ctx.lay (C : Ctx) (r : Loop) : Ctx :=
  { C with w := (C.w.alloc (.deferred (some []))).alloc (.loop r), H := { C.H with lps := [(C.w.heap.size + 1, r)] }, dfs := C.w.heap.size :: C.dfs }

theorem lay_rules (hI : Inv W0 C) (r : Loop) (hl : C.H.lps = []) (hro : W0.ro = none) : Mem C (C.lay r) ∧ Inv W0 (C.lay r) ∧ ∀ x v, Rep C x v → Rep (C.lay r) x v := by
  have hB : RowKit.Below C.w.heap.size C.w (C.lay r).w := ((RowKit.Below.refl _ _).alloc (Nat.le_refl _) _).alloc (by simp) _
  have e1 : Ext C (C.inW (C.lay r).w) := ext_of_block hB
  have i1 := hI.inW hB
  have hs : (C.lay r).w.heap.size = C.w.heap.size + 2 := by show ((C.w.alloc _).alloc _).heap.size = _; rw [alloc_size, alloc_size]
  have h0 : (C.lay r).w.heap[C.w.heap.size]? = some (.deferred (some [])) := by
    show ((C.w.alloc (.deferred (some []))).heap.push _)[C.w.heap.size]? = _
    rw [Array.getElem?_push_lt (by rw [alloc_size]; exact Nat.lt_succ_self _)]
    exact (Array.getElem?_eq_getElem _).symm.trans (alloc_heap C.w _)
  have h1 : (C.lay r).w.heap[C.w.heap.size + 1]? = some (.loop r) := by
    have := alloc_heap (C.w.alloc (.deferred (some []))) (.loop r)
    rw [alloc_size] at this
    exact this
  have hsp : ∀ b, (C.lay r).sp b → C.sp b ∨ C.w.heap.size ≤ b := by
    rintro b (⟨r', h⟩ | h)
    · simp only [Ctx.lay, lk] at h
      split at h
      · rename_i hb; right; omega
      · cases h
    · rcases List.mem_cons.1 h with h | h
      · right; omega
      · exact .inl (.inr h)
  have hown : ∀ b, (C.lay r).own b → C.own b ∨ C.w.heap.size ≤ b := by
    rintro b (h | h)
    · exact .inl (.inl h)
    · exact (hsp b h).imp .inr id
  have hbadl : ∀ b, b < C.w.heap.size → (C.lay r).bad b → C.bad b := fun b hb h => by
    rcases h with h | h
    · rcases hown b h with h | h
      · exact .inl h
      · omega
    · exact .inr h
  have hM : Mem C (C.lay r) := ⟨⟨rfl, rfl, rfl, by rw [hs]; omega, fun k hk => absurd hk (Nat.not_lt_zero k)⟩, fun b hb hn => hB.block b hb, fun b hb h => by
    rcases hown b h with h | h
    · exact h
    · omega, rfl, rfl, fun hp => ⟨hp, fun k es' _ hg => ⟨⟨es', hg⟩, rfl⟩⟩⟩
  have hholds : ∀ {b i : Nat} {v : Value}, b < C.w.heap.size → Holds C.w b i v → Holds (C.lay r).w b i v := fun {b i v} hb h => by
    refine ⟨?_, h.2⟩
    rw [World.cell?_of_block (w := C.w) (a := ⟨b, i, none⟩) (hB.block b hb)]
    exact h.1
  have hrep : ∀ x v, Rep C x v → Rep (C.lay r) x v := by
    intro x v h
    induction h with
    | any v => exact .any v
    | imm v hv => exact .imm v hv
    | slNil a cap => exact .slNil a cap
    | sl es b off sz cap c hlt hbd hc hf hcell _ ih => exact .sl es b off sz cap c (by rw [hs]; omega) (fun h => hbd (hbadl b hlt h)) hc hf (fun i j e x he hx => hholds hlt (hcell i j e x he hx)) ih
    | clipNil a => exact .clipNil a
    | clip es b off sz c hlt hbd hf hcell _ ih => exact .clip es b off sz c (by rw [hs]; omega) (fun h => hbd (hbadl b hlt h)) hf (fun i j e x he hx => hholds hlt (hcell i j e x he hx)) ih
    | view id off len v hid hs' h1 => exact .view id off len v hid hs' h1
    | ref id i j v hid hs' h1 => exact .ref id i j v hid hs' h1
    | pp fl j b off c hlt hbd hcell _ ih => exact .pp fl j b off c (by rw [hs]; omega) (fun h => hbd (hbadl b hlt h)) (fun k x hx => hholds hlt (hcell k x hx)) ih
    | agg cs vs hs' h1 _ ih => exact .agg cs vs hs' h1 ih
    | tuple cs vs hs' _ ih => exact .tuple cs vs hs' ih
    | ifc t x v _ ih => exact .ifc t x v ih
    | clo fn caps vs hs' _ ih => exact .clo fn caps vs hs' ih
  refine ⟨hM, ?_, hrep⟩
  exact {
    fresh := hI.fresh
    nil := hI.nil
    obj := fun id es h hn => by
      have hO := hI.obj id es h hn
      have hlt := hI.lt h hn
      obtain ⟨arr, el, q1, q2⟩ := hO.blk
      have hc : ∀ o, (C.lay r).w.cell? ⟨(C.pl id).blk, o, none⟩ = C.w.cell? ⟨(C.pl id).blk, o, none⟩ := fun o => World.cell?_of_block (w := C.w) (a := ⟨_, o, none⟩) (hB.block _ hlt)
      exact ⟨hO.n, hO.cap, ⟨arr, el, by rw [← q1]; exact hB.block _ hlt, q2⟩, fun o v hv => hO.one o v (by rw [← hc o]; exact hv), hO.flat, fun i j e x v h1 h2 h3 => hrep _ _ (hO.cell i j e x v h1 h2 (by rw [← hc]; exact h3))⟩
    sep := hI.sep
    prot := hI.prot
    szok := hI.szok
    protlt := fun b h => Nat.lt_of_lt_of_le (hI.protlt b h) hB.size
    protge := hI.protge
    size := Nat.le_trans hI.size hB.size
    glob := fun b h => ⟨by rw [← (hI.glob b h).1]; exact hB.block b (Nat.lt_of_lt_of_le h hI.size), fun ho => by
      rcases hown b ho with h' | h'
      · exact (hI.glob b h).2 h'
      · have := hI.size; omega⟩
    lps := fun l r' h => by
      simp only [Ctx.lay, lk] at h
      split at h
      · rename_i hb; cases h; rw [← hb]; exact h1
      · cases h
    dfs := fun d h => by
      rcases List.mem_cons.1 h with h | h
      · rw [h]; exact h0
      · have h2 := hI.dfs d h
        rw [← h2]; exact hB.block d (Array.getElem?_eq_some_iff.1 h2).1
    dnd := List.nodup_cons.2 ⟨fun h => by
      have h2 := hI.dfs _ h
      have := (Array.getElem?_eq_some_iff.1 h2).1
      omega, hI.dnd⟩
    rod := fun l h => by rw [hro] at h; cases h
    spprot := fun b h hp => by
      rcases hsp b h with h | h
      · exact hI.spprot b h hp
      · have := hI.protlt b hp; omega
    pinB := hI.pinB
    pinlt := hI.pinlt
    gh := W0.st C _ hM hI.pinlt hI.gh }

/-- A range over a function: what the iterator does, and what comes behind. -/
theorem awp_range {ok : AV → Prop} {Q : Exit → St → Prop} {g0 : Operand} {ps : Array Tmp} {as bd j : Code} {frl fr : List (Nat × AV)} {H : Heap} {fi : FuncId} {fn : Func} {caps xs : List AV} {k p : Nat} {r : AV} {b : Bool} {Hs Hin Hout H' : Heap} {g m : List (Nat × Nat)} {nw : List Nat}
    (hro : W0.ro = none) (hcode : (fn.body.bind fun c => (rangesOf c)[k]?) = some (ps, as, bd)) (hg : evalA (lk fr) g0 = some (.clo (.func fi) caps)) (hc : Callable P fi) (hHl : H.lps = []) (hul : ∀ t x, lk frl t = some x → Under p x)
    (hseen : Seen { Hs with lps := [] } g nw fr frl)
    (hit : ∀ (l : Nat) (rec : Loop), RecAt rec fn k N → Fun3 P (.it W0.w p rec frl) fi (.clo (.yield l) [] :: xs) { Hin with lps := [(l, rec)] } r { Hout with lps := [(l, lpst rec j b)] })
    (hpass : ∀ (l : Nat) (rec : Loop), Pass ok (argsFr 0 (.clo (.yield l) [] :: caps)) (argsFr 0 (.clo (.yield l) [] :: xs)) { H with lps := [(l, rec)] } { Hs with lps := [(l, rec)] } { Hin with lps := [(l, rec)] } { Hout with lps := [(l, lpst rec j b)] } { H' with lps := [(l, lpst rec j b)] } g m nw p r .any)
    (hl : xs.length = caps.length) (hnext : b = true → Q .normal ⟨fr, { H' with lps := [] }⟩) (hjump : b = false → AWP P W0 N j ⟨fr, { H' with lps := [] }⟩ Q) :
    AWP P W0 N (.rangeFunc g0 ps as bd) ⟨fr, H⟩ Q := fun C a hr => by
  rw [hro, fw_none]
  refine wpIn_rangeFunc fun fnid _ => ?_
  -- the record
  let rc : Loop := { state := .ready, pending := none, fn := fnid, tmps := a.tmps, params := ps, assign := as, body := bd, defers := C.w.heap.size }
  have hrec : RecAt rc fn k N := ⟨rfl, rfl, hcode, hr.size⟩
  obtain ⟨m1, i1, r1⟩ := lay_rules hr.inv rc (by rw [hr.heap]; exact hHl) hro
  have hgv := rep_eval (C := C) (a := a) (fun q _ av hav => hr.rep q av hav) hg
  obtain ⟨vs, hvs, hsz, hcap⟩ : ∃ vs : Array Value, a.eval g0 = .func (.func fi) #[] vs ∧ vs.size = caps.length ∧ ∀ (k : Nat) (x : AV), caps[k]? = some x → Rep C x (vs.getD k undef) := by
    generalize a.eval g0 = u at hgv
    match hgv with
    | .clo _ _ vs h1 h2 => exact ⟨vs, rfl, h1, h2⟩
  refine ⟨C.w.heap.size + 1, [{ target := .collected C.w.heap.size, args := #[] }], (C.lay rc).w, { target := .fn (.func fi) vs, args := #[.func (.yield (C.w.heap.size + 1)) #[] #[]] }, (C.lay rc).w, fi, #[.func (.yield (C.w.heap.size + 1)) #[] #[]] ++ vs, (C.lay rc).w, run_enterLoop_outer fnid a.tmps ps as bd, ?_, fun _ _ => trivial, ?_, fun h => by simp [Fence.wide] at h, ?_⟩
  · show (resolve a.eval (rangeCall g0 (C.w.heap.size + 1)) 0).run P (C.lay rc).w = .ok { target := .fn (.func fi) vs, args := #[.func (.yield (C.w.heap.size + 1)) #[] #[]] } (C.lay rc).w
    have e1 : (#[Operand.const (.func (.yield (C.w.heap.size + 1)) #[] #[])].map a.eval) = #[.func (.yield (C.w.heap.size + 1)) #[] #[]] := by simp [Act.eval]
    simp only [resolve, rangeCall, hvs, Deferred.ofValue, e1]
    rfl
  · show (invoke (.fn (.func fi) vs) #[.func (.yield (C.w.heap.size + 1)) #[] #[]]).run P (C.lay rc).w = _
    simpa [invoke] using hc (#[.func (.yield (C.w.heap.size + 1)) #[] #[]] ++ vs) (C.lay rc).w
  · refine callsIn_wide.2 ?_
    have hHL : (C.lay rc).H = { H with lps := [(C.w.heap.size + 1, rc)] } := by simp only [Ctx.lay, hr.heap]
    have hrep : ∀ t x, lk (argsFr 0 (.clo (.yield (C.w.heap.size + 1)) [] :: caps)) t = some x → Rep (C.lay rc) x ((#[Value.func (.yield (C.w.heap.size + 1)) #[] #[]] ++ vs).getD t undef) := fun t x hx => by
      obtain ⟨_, h2⟩ := lk_argsFr _ 0 t x hx
      rw [Nat.sub_zero] at h2
      cases t with
      | zero =>
        simp at h2; subst h2
        have : (#[Value.func (.yield (C.w.heap.size + 1)) #[] #[]] ++ vs).getD 0 undef = .func (.yield (C.w.heap.size + 1)) #[] #[] := by
          rw [Array.getD_eq_getD_getElem?, Array.getElem?_append_left (by simp)]; rfl
        rw [this]
        exact .clo _ [] #[] rfl (fun k x h => by simp at h)
      | succ t =>
        simp at h2
        have hlt : t < vs.size := by rw [hsz]; exact (List.getElem?_eq_some_iff.1 h2).1
        have : (#[Value.func (.yield (C.w.heap.size + 1)) #[] #[]] ++ vs).getD (t + 1) undef = vs.getD t undef := by
          simp only [Array.getD_eq_getD_getElem?]
          rw [Array.getElem?_append_right (by simp)]
          simp
        rw [this]
        exact r1 _ _ (hcap t x h2)
    have hps := hpass (C.w.heap.size + 1) rc
    have hpart := hps.isPart
    rw [← hHL] at hpart
    have hG : (Base.it W0.w p rc frl).G ((C.lay rc).sub { Hs with lps := [(C.w.heap.size + 1, rc)] } { Hin with lps := [(C.w.heap.size + 1, rc)] } g p) := by
      refine ⟨rfl, fun t x hx => ⟨hul t x hx, ?_⟩⟩
      have hr0 : Rel (.of W0.w) N (lk fr) { Hs with lps := [(C.w.heap.size + 1, rc)] } ((C.lay rc).hide { Hs with lps := [(C.w.heap.size + 1, rc)] }) { tmps := a.tmps, defers := [] } :=
        ⟨rfl, i1.hide hpart, hr.size, rfl, fun t x hx => (r1 _ _ (hr.rep t x hx)).hide hpart⟩
      have hs2 : Seen { Hs with lps := [(C.w.heap.size + 1, rc)] } g nw fr frl := seen_lps hseen
      exact rep_pin ((re_rel (st := ⟨fr, { Hs with lps := [(C.w.heap.size + 1, rc)] }⟩) g nw hps.inj hps.lt hps.nwf hps.held hs2 (by simp [pinOk]) rfl hr0).2.rep t x hx)
    refine (call3 (W0 := W0) (C := C.lay rc) (hit (C.w.heap.size + 1) rc hrec) rfl rfl hps (by simp [hl]) i1 hHL (by simp [hsz]; omega) hrep hG).mono ?_
    rintro e w' ⟨v, C2, rfl, rfl, hE, hI2, hH2, _⟩
    have hl2 : C2.w.heap[C.w.heap.size + 1]? = some (.loop (lpst rc j b)) := hI2.lps _ _ (by rw [hH2]; simp [lk])
    have hbusy : (lpst rc j b).state ≠ .busy := by cases b <;> simp [lpst, rc]
    -- the record is of no more use
    let C3 : Ctx := { C2 with w := C2.w.putObj (C.w.heap.size + 1) (.loop { lpst rc j b with state := .exhausted }), H := { C2.H with lps := [] } }
    have hlt2 : C.w.heap.size + 1 < C2.w.heap.size := (Array.getElem?_eq_some_iff.1 hl2).1
    obtain ⟨m3, i3, r3⟩ := poke (C' := C3) hI2 (b := C.w.heap.size + 1) (.inl ⟨_, by rw [hH2]; simp [lk]; rfl⟩) (ob := .loop { lpst rc j b with state := .exhausted }) rfl rfl rfl rfl rfl rfl (fun b h => by
        rcases h with ⟨r', h⟩ | h
        · simp [C3, lk] at h
        · exact .inr h) (fun l r' h => by simp [C3, lk] at h) (fun d h => by
        have h1 := hI2.dfs d h
        rw [← h1]
        refine World.putObj_heap_other (fun hd => ?_)
        rw [hd, hl2] at h1; cases h1) hI2.dnd hI2.rod
    have hrel3 : Rel W0 N (lk fr) { H' with lps := [] } C3 { a with defers := [{ target := .collected C.w.heap.size, args := #[] }] ++ a.defers } := by
      refine ⟨by simp only [C3, hH2], i3, hr.size, ?_, fun t x hx => r3 _ _ ((r1 _ _ (hr.rep t x hx)).ext hE)⟩
      show _ = C2.dfs.map _
      rw [hE.dfs]
      show _ = (C.w.heap.size :: C.dfs).map _
      rw [hr.defers]; rfl
    have hMM : Mem C C3 := m1.trans (hE.mem.trans m3)
    refine ⟨(lpst rc j b).pending, C3.w, run_endLoop hl2 hbusy, ?_⟩
    cases b with
    | true => exact ⟨⟨fr, { H' with lps := [] }⟩, C3, rfl, hMM, hrel3, hnext rfl⟩
    | false =>
      have := (hjump rfl).at hMM hrel3
      rw [hro, fw_none] at this
      exact this

end

def UnderL (p : Nat) : List (Nat × AV) → Prop
  | [] => True
  | (_, x) :: r => Under p x ∧ UnderL p r
theorem UnderL.spec {p : Nat} : ∀ {l : List (Nat × AV)}, UnderL p l → ∀ t x, lk l t = some x → Under p x
  | [], _, _, _, h => by cases h
  | (q, u) :: l, hl, t, x, h => by
    simp only [lk] at h
    split at h
    · rename_i hq; subst hq; cases h; exact hl.1
    · exact UnderL.spec hl.2 t x h
theorem Under.noid {p : Nat} {x : AV} (h : NoId x) : Under p x := by
  have fl : ∀ (e x : AV), x ∈ e.flat → NoId e → (∀ y ∈ e.flat, NoId y) := fun e x _ hn y hy => by
    cases e <;> simp only [AV.flat, List.mem_singleton] at hy
    case agg cs => simp only [noId_agg] at hn; exact hn y hy
    all_goals (rw [hy]; exact hn)
  have key : ∀ x : AV, NoId x → Under p x ∧ ∀ y ∈ x.flat, Under p y := by
    intro x h
    induction h with
    | any => exact ⟨.any, fun y hy => by simp only [AV.flat, List.mem_singleton] at hy; rw [hy]; exact .any⟩
    | imm v => exact ⟨.imm v, fun y hy => by simp only [AV.flat, List.mem_singleton] at hy; rw [hy]; exact .imm v⟩
    | sl es _ ih =>
      have : Under p (.sl es) := .sl es (fun e he x hx => (ih e he).2 x hx)
      exact ⟨this, fun y hy => by simp only [AV.flat, List.mem_singleton] at hy; rw [hy]; exact this⟩
    | clip es _ ih =>
      have : Under p (.clip es) := .clip es (fun e he x hx => (ih e he).2 x hx)
      exact ⟨this, fun y hy => by simp only [AV.flat, List.mem_singleton] at hy; rw [hy]; exact this⟩
    | pp fl j _ ih =>
      have : Under p (.pp fl j) := .pp fl j (fun e he => (ih e he).1)
      exact ⟨this, fun y hy => by simp only [AV.flat, List.mem_singleton] at hy; rw [hy]; exact this⟩
    | agg cs _ ih => exact ⟨.agg cs (fun e he => (ih e he).1), fun y hy => by simp only [AV.flat] at hy; exact (ih y hy).1⟩
    | tuple cs _ ih =>
      have : Under p (.tuple cs) := .tuple cs (fun e he => (ih e he).1)
      exact ⟨this, fun y hy => by simp only [AV.flat, List.mem_singleton] at hy; rw [hy]; exact this⟩
    | ifc t x _ ih =>
      have : Under p (.ifc t x) := .ifc t x ih.1
      exact ⟨this, fun y hy => by simp only [AV.flat, List.mem_singleton] at hy; rw [hy]; exact this⟩
    | clo fn cs _ ih =>
      have : Under p (.clo fn cs) := .clo fn cs (fun e he => (ih e he).1)
      exact ⟨this, fun y hy => by simp only [AV.flat, List.mem_singleton] at hy; rw [hy]; exact this⟩
  exact (key x h).1
end Go.Av
end

section
/- Function values, methods behind interfaces, and loops gone through one by one. -/
namespace Go.Av

section
variable {P : Program} {W0 : Base} {C : Ctx} {fr : Fr} {a : Act} {H : Heap} {o : Oper} {N : Nat}

/-- A call of a function's value: what it has caught comes behind the arguments. -/
theorem Enters.clo {f : FuncId} {x : Operand} {args : Array Operand} {tys : Array TypeId} {ys caps : List AV} (ho : o.op = .call { callee := .value x, args := args, argTypes := tys }) (hx : evalA fr x = some (.clo (.func f) caps)) (hys : args.toList.mapM (evalA fr) = some ys) (hc : Callable P f) : Enters P o fr f (ys ++ caps) := fun C a hop => by
  have hopy : ∀ y ∈ args.toList, RepO C fr a y := fun y hy => hop y (by rw [ho]; simp [Op.operands, Call.operands]; exact .inr (by simpa using hy))
  obtain ⟨h1, h2⟩ := args_rep hopy hys
  have hv := rep_eval (hop x (by rw [ho]; simp [Op.operands, Call.operands])) hx
  obtain ⟨vs, hvs, hsz, hcap⟩ : ∃ vs : Array Value, a.eval x = .func (.func f) #[] vs ∧ vs.size = caps.length ∧ ∀ (k : Nat) (x : AV), caps[k]? = some x → Rep C x (vs.getD k undef) := by
    generalize a.eval x = u at hv
    match hv with
    | .clo _ _ vs h1 h2 => exact ⟨vs, rfl, h1, h2⟩
  refine ⟨args.map a.eval ++ vs, fun w => ?_, by simp [hsz] at h1 ⊢; omega, fun t z hz => ?_⟩
  · have := hc (args.map a.eval ++ vs) w
    simp only [execOp, ho, resolve, hvs, Deferred.ofValue]
    simpa [invoke] using this
  · obtain ⟨_, h3⟩ := lk_argsFr (ys ++ caps) 0 t z hz
    rw [Nat.sub_zero] at h3
    by_cases ht : t < ys.length
    · rw [List.getElem?_append_left ht] at h3
      have : (args.map a.eval ++ vs).getD t undef = (args.map a.eval).getD t undef := by
        rw [Array.getD_eq_getD_getElem?, Array.getElem?_append_left (by omega), ← Array.getD_eq_getD_getElem?]
      rw [this]
      refine h2 t z ?_
      have key : ∀ (xs : List AV) (q k : Nat) (x : AV), xs[k]? = some x → lk (argsFr q xs) (q + k) = some x := by
        intro xs
        induction xs with
        | nil => intro q k x h; simp at h
        | cons y ys ih =>
          intro q k x hk
          cases k with
          | zero => simp at hk; subst hk; simp [argsFr, lk]
          | succ k =>
            simp at hk
            simp only [argsFr, lk]
            rw [if_neg (by omega)]
            have := ih (q + 1) k x hk
            rwa [show q + 1 + k = q + (k + 1) by omega] at this
      have := key ys 0 t z h3
      rwa [Nat.zero_add] at this
    · rw [List.getElem?_append_right (by omega)] at h3
      have : (args.map a.eval ++ vs).getD t undef = vs.getD (t - ys.length) undef := by
        rw [Array.getD_eq_getD_getElem?, Array.getElem?_append_right (by omega), h1, ← Array.getD_eq_getD_getElem?]
      rw [this]
      exact hcap _ z h3

/-- A call of a method behind an interface. -/
theorem Enters.iface {f : FuncId} {x : Operand} {name : String} {t : TypeId} {args : Array Operand} {tys : Array TypeId} {z : AV} {ys : List AV} (ho : o.op = .call { callee := .invoke x name, args := args, argTypes := tys }) (hx : evalA fr x = some (.ifc t z)) (hys : args.toList.mapM (evalA fr) = some ys)
    (hm : ∀ v w, (method (P.types.size + Made.depth) t v name).run P w = .ok (f, v) w) (hc : Callable P f) : Enters P o fr f (z :: ys) := fun C a hop => by
  have hopy : ∀ y ∈ args.toList, RepO C fr a y := fun y hy => hop y (by rw [ho]; simp [Op.operands, Call.operands]; exact .inr (by simpa using hy))
  obtain ⟨h1, h2⟩ := args_rep hopy hys
  have hv := rep_eval (hop x (by rw [ho]; simp [Op.operands, Call.operands])) hx
  obtain ⟨v, hvs, hrep⟩ : ∃ v : Value, a.eval x = .iface t v ∧ Rep C z v := by
    generalize a.eval x = u at hv
    match hv with
    | .ifc _ _ v h1 => exact ⟨v, rfl, h1⟩
  refine ⟨#[v] ++ args.map a.eval, fun w => ?_, by simpa [Nat.add_comm] using h1, fun k y hk => ?_⟩
  · have h3 := hc (#[v] ++ args.map a.eval) w
    have h4 := hm v w
    have e1 : (#[Value.iface t v] ++ args.map a.eval)[0]? = some (.iface t v) := by rw [Array.getElem?_append_left (by simp)]; rfl
    have e3 : (args.map a.eval).extract 0 args.size = args.map a.eval := by
      have h5 : args.size = (args.map a.eval).size := by simp
      rw [h5, Array.extract_size]
    have e4 : (#[Value.iface t v] ++ args.map a.eval).extract 1 (#[Value.iface t v] ++ args.map a.eval).size = args.map a.eval := by
      simp [e3]
    have h5 : (invoke (.fn (.method name) #[]) (#[.iface t v] ++ args.map a.eval)).run P w = .ok (.enter f (#[v] ++ args.map a.eval)) w := by
      simp only [invoke, e1, callMethod]
      rw [e4, Sem.run_bind]
      show (Result.andThen (.ok P w) _) = _
      simp only [Result.andThen_ok]
      rw [Sem.run_bind, h4]
      exact h3
    simp only [execOp, ho, resolve, hvs]
    rw [Sem.run_bind]
    exact h5
  · obtain ⟨_, h3⟩ := lk_argsFr (z :: ys) 0 k y hk
    rw [Nat.sub_zero] at h3
    cases k with
    | zero =>
      simp at h3; subst h3
      have : (#[v] ++ args.map a.eval).getD 0 undef = v := by
        rw [Array.getD_eq_getD_getElem?, Array.getElem?_append_left (by simp)]; rfl
      rw [this]; exact hrep
    | succ k =>
      simp at h3
      have : (#[v] ++ args.map a.eval).getD (k + 1) undef = (args.map a.eval).getD k undef := by
        rw [Array.getD_eq_getD_getElem?, Array.getElem?_append_right (by simp), ← Array.getD_eq_getD_getElem?]; simp
      rw [this]
      refine h2 k y ?_
      have key : ∀ (xs : List AV) (q k : Nat) (x : AV), xs[k]? = some x → lk (argsFr q xs) (q + k) = some x := by
        intro xs
        induction xs with
        | nil => intro q k x h; simp at h
        | cons y ys ih =>
          intro q k x hk
          cases k with
          | zero => simp at hk; subst hk; simp [argsFr, lk]
          | succ k =>
            simp at hk
            simp only [argsFr, lk]
            rw [if_neg (by omega)]
            have := ih (q + 1) k x hk
            rwa [show q + 1 + k = q + (k + 1) by omega] at this
      have := key ys 0 k y h3
      rwa [Nat.zero_add] at this

theorem aop_call3E {ok : AV → Prop} {f : FuncId} {ys xs : List AV} {r r' : AV} {Hs Hin Hout H' : Heap} {g m : List (Nat × Nat)} {nw : List Nat} {p : Nat} (he : Enters P o fr f ys)
    (hf : Fun3 P (.pinned W0.w p) f xs Hin r Hout) (h : Pass ok (argsFr 0 ys) (argsFr 0 xs) H Hs Hin Hout H' g m nw p r r') (hl : xs.length = ys.length) : AOp P W0 o fr H r' H' := by
  intro C a hI hH hop K Q hK
  obtain ⟨vals, hrun, h1, h2⟩ := he C a hop
  unfold Oper.wp
  rw [hrun, Oper.upon_enter]
  refine (call3 (W0 := W0) hf rfl rfl h hl hI hH h1 h2 trivial).mono ?_
  rintro e w' ⟨v, C', rfl, rfl, h1, h2, h3, h4⟩
  exact hK v C' h1 h2 h3 h4

/-! ### Loops gone through one by one -/

def Unr (P : Program) (W0 : Base) (N : Nat) (c : Code) (Q : Exit → St → Prop) : Nat → St → Prop
  | 0, _ => False
  | n + 1, s => AWP P W0 N c s (Then (Unr P W0 N c Q n) Q)

theorem awp_unr {c : Code} {st : St} {Q : Exit → St → Prop} (n : Nat) (h : Unr P W0 N c Q n st) : AWP P W0 N (.loop c) st Q := by
  classical
  refine awp_loop (fun s => ∃ m, Unr P W0 N c Q m s) (fun s => if h : ∃ m, Unr P W0 N c Q m s then Classical.choose (exists_least _ h) else 0) ⟨n, h⟩ ?_
  intro s hs
  have hm : (if h : ∃ m, Unr P W0 N c Q m s then Classical.choose (exists_least _ h) else 0) = Classical.choose (exists_least _ hs) := dif_pos hs
  rw [hm]
  have h1 := (Classical.choose_spec (exists_least _ hs)).1
  generalize Classical.choose (exists_least _ hs) = k at h1
  cases k with
  | zero => exact h1.elim
  | succ k =>
    refine AWP.mono h1 fun e s1 h2 => ?_
    cases e with
    | normal =>
      have h3 : ∃ m, Unr P W0 N c Q m s1 := ⟨k, h2⟩
      refine ⟨s1, Weak.refl _, h3, ?_⟩
      rw [dif_pos h3]
      exact Nat.lt_succ_of_le ((Classical.choose_spec (exists_least _ h3)).2 k h2)
    | _ => exact h2
end


section
variable {P : Program} {W0 : Base} {fr : Fr} {H : Heap} {o : Oper}
theorem aop_min2 {x y : Operand} {tys : Array TypeId} {a b : Int} (ho : o.op = .call { callee := .builtin .min, args := #[x, y], argTypes := tys }) (hx : evalA fr x = some (i64 a)) (hy : evalA fr y = some (i64 b)) : AOp P W0 o fr H (i64 (Sh.min a b)) H :=
  .of_pure fun C a' _ _ hop => by
    have e1 := rep_toV (v := .int .i64 a) rfl (rep_eval (hop x (by simp [ho, Op.operands, Call.operands])) hx)
    have e2 := rep_toV (v := .int .i64 b) rfl (rep_eval (hop y (by simp [ho, Op.operands, Call.operands])) hy)
    refine ⟨.int .i64 (Sh.min a b), ?_, .imm _ rfl⟩
    obtain ⟨cs, hb⟩ := run_builtin (P := P) ho a'
    rw [hb]
    have e : (#[x, y].map a'.eval) = #[.int .i64 a, .int .i64 b] := by simp [e1, e2]
    rw [e]
    simp [builtin, Builtin.min_, Builtin.min2, Sh.min]
theorem aop_max2 {x y : Operand} {tys : Array TypeId} {a b : Int} (ho : o.op = .call { callee := .builtin .max, args := #[x, y], argTypes := tys }) (hx : evalA fr x = some (i64 a)) (hy : evalA fr y = some (i64 b)) : AOp P W0 o fr H (i64 (Sh.max a b)) H :=
  .of_pure fun C a' _ _ hop => by
    have e1 := rep_toV (v := .int .i64 a) rfl (rep_eval (hop x (by simp [ho, Op.operands, Call.operands])) hx)
    have e2 := rep_toV (v := .int .i64 b) rfl (rep_eval (hop y (by simp [ho, Op.operands, Call.operands])) hy)
    refine ⟨.int .i64 (Sh.max a b), ?_, .imm _ rfl⟩
    obtain ⟨cs, hb⟩ := run_builtin (P := P) ho a'
    rw [hb]
    have e : (#[x, y].map a'.eval) = #[.int .i64 a, .int .i64 b] := by simp [e1, e2]
    rw [e]
    simp [builtin, Builtin.max_, Builtin.max2, Sh.max]
end
end Go.Av
namespace Go.Av
section
variable {H : Heap} {g : List (Nat × Nat)} {nw : List Nat}
theorem See.cl {fn : Fn} {cs cs' : List AV} (h : SeeAll H g nw cs cs') : See H g nw (.clo fn cs) (.clo fn cs') := .clo fn cs cs' h.spec.1 h.spec.2
theorem See.frzA {id i j : Nat} {es fl : List AV} {e : AV} (h1 : H.get id = some es) (h2 : g.all (fun p => p.2 != id) = true) (h3 : es[i]? = some e) (h4 : e.flat = fl) (h5 : ∀ x ∈ fl, NoId x) : See H g nw (.ref id i j) (.pp fl j) :=
  .frz h1 (fun p hp => by have := List.all_eq_true.1 h2 p hp; simpa using this) h3 h4 h5
end
end Go.Av
namespace Go.Av
theorem awp_unrS {P : Program} {W0 : Base} {N n : Nat} {c : Code} {Q : Exit → St → Prop} {s : St} (h : AWP P W0 N c s (Then (Unr P W0 N c Q n) Q)) : Then (Unr P W0 N c Q (n + 1)) Q .normal s := h
end Go.Av
end

section
/- From the reading of a claim's arguments to what the proof sees of them; and from what a law's function does to what its row asks. -/
namespace Go.Av
open Go.RowKit (Below)

mutual
def avOf {H : Type} : DataW H → AV
  | .lit (.bool b) => .imm (.bool b)
  | .lit (.int k n) => .imm (.int k n)
  | .lit (.string bs) => .imm (.string ⟨bs.toArray⟩)
  | .nil => .sl []
  | .slice es _ => .sl (avAll es)
  | .agg ps => .agg (cellsAll ps)
  | _ => .any
def avAll {H : Type} : List (DataW H) → List AV
  | [] => []
  | d :: r => avOf d :: avAll r
def cellsAll {H : Type} : List (DataW H) → List AV
  | [] => []
  | d :: r => (avOf d).flat ++ cellsAll r
end

theorem avAll_map {H : Type} (l : List (DataW H)) : avAll l = l.map avOf := by
  induction l with
  | nil => rfl
  | cons d r ih => simp [avAll, ih]

/-- Types whose values are read as data without pointers, each element of some size, each field behind the one before. -/
def plainTy (P : Program) : Nat → TypeId → Bool
  | 0, _ => false
  | n + 1, t =>
    match P.underlying t with
    | some .bool | some (.int _) | some .string => true
    | some (.slice e) => P.cellsOf e != 0 && plainTy P n e
    | some (.struct fs) => fs.toList.all (fun f => plainTy P n f.type) && (fs.toList.foldl (fun (acc : Option Nat) f => acc.bind fun a => if f.offset == a then some (a + P.cellsOf f.type) else none) (some 0)) == some (P.cellsOf t)
    | some (.array m e) => plainTy P n e && m * P.cellsOf e == P.cellsOf t
    | _ => false

theorem flat_agg (cs : List AV) : (AV.agg cs).flat = cs := rfl

structure ReadsAs (C : Ctx) (cs : List Value) (x : AV) : Prop where
  len : x.flat.length = cs.length
  one : ∀ c ∈ cs, c.oneCell' = true
  rep : ∀ (k : Nat) (y : AV), x.flat[k]? = some y → ∃ c, cs[k]? = some c ∧ Rep C y c

theorem mapM_some {α β : Type} (f : α → Option β) : ∀ (l : List α) (ys : List β), l.mapM f = some ys → ys.length = l.length ∧ ∀ (k : Nat) (x : α), l[k]? = some x → ∃ y, ys[k]? = some y ∧ f x = some y := by
  intro l
  induction l with
  | nil => intro ys h; simp only [List.mapM_nil, Option.pure_def, Option.some.injEq] at h; subst h; exact ⟨rfl, fun k x hk => by simp at hk⟩
  | cons y l ih =>
    intro ys h
    rw [List.mapM_cons] at h
    simp only [Option.bind_eq_bind, Option.bind_eq_some_iff, Option.pure_def, Option.some.injEq] at h
    obtain ⟨z, hz, zs, hzs, rfl⟩ := h
    obtain ⟨h1, h2⟩ := ih zs hzs
    refine ⟨by simp [h1], fun k x hk => ?_⟩
    cases k with
    | zero => simp at hk; subst hk; exact ⟨z, rfl, hz⟩
    | succ k => simp at hk; simpa using h2 k x hk

theorem readsAs_one {C : Ctx} {c : Value} {x : AV} (h1 : c.oneCell' = true) (hr : Rep C x c) : ReadsAs C [c] x := by
  have hf := rep_flat_one hr h1
  refine ⟨by rw [hf]; rfl, fun c' hc => by simp at hc; subst hc; exact h1, fun k y hk => ?_⟩
  rw [hf] at hk
  cases k with
  | zero => simp at hk; subst hk; exact ⟨c, rfl, hr⟩
  | succ k => simp at hk

section
variable {H : Type} {enc : TypeId × Value → H} {P : Program} {w : World} {spare : Nat → Bool} {held : Bool} {C : Ctx}

/-- Parts, one behind the other. -/
theorem reads_segs {ι : Type} (ty : ι → TypeId) (off : ι → Nat) (fuel : Nat) (cs : List Value) :
    ∀ (l : List ι) (acc : Nat) (xs : List (DataW H × List MemPlace)), (∀ x ∈ l, ∀ (seg : List Value) (y : DataW H × List MemPlace), DataW.trod enc P w 0 spare held fuel (ty x) seg = some y → seg.length = P.cellsOf (ty x) → ReadsAs C seg (avOf y.1)) → (∀ (i : Nat) (x : ι), l[i]? = some x → off x = acc + ((l.take i).map fun y => P.cellsOf (ty y)).sum) → acc + (l.map fun y => P.cellsOf (ty y)).sum = cs.length →
      l.mapM (fun x => DataW.trod enc P w 0 spare held fuel (ty x) ((cs.drop (off x)).take (P.cellsOf (ty x)))) = some xs → ReadsAs C (cs.drop acc) (.agg (cellsAll (xs.map (·.1)))) := by
  intro l
  induction l with
  | nil =>
    intro acc xs _ _ hlen h
    simp only [List.mapM_nil, Option.pure_def, Option.some.injEq] at h; subst h
    have : cs.drop acc = [] := List.drop_eq_nil_of_le (by simp at hlen; omega)
    rw [this]
    exact ⟨rfl, fun c hc => (by cases hc), fun k y hk => (by simp [cellsAll, AV.flat] at hk)⟩
  | cons x l ihl =>
    intro acc xs ih hoff hlen h
    rw [List.mapM_cons] at h
    simp only [Option.bind_eq_bind, Option.bind_eq_some_iff, Option.pure_def, Option.some.injEq] at h
    obtain ⟨z, hz, zs, hzs, rfl⟩ := h
    have h0 : off x = acc := by have := hoff 0 x rfl; simpa using this
    simp only [List.map_cons, List.sum_cons] at hlen
    rw [h0] at hz
    have hseg : ((cs.drop acc).take (P.cellsOf (ty x))).length = P.cellsOf (ty x) := by simp; omega
    have r1 := ih x (List.mem_cons_self ..) _ z hz hseg
    have r2 := ihl (acc + P.cellsOf (ty x)) zs (fun y hy => ih y (List.mem_cons_of_mem _ hy)) (fun i y hy => by
      have := hoff (i + 1) y (by simpa using hy)
      rw [this]; simp only [List.take_succ_cons, List.map_cons, List.sum_cons]; omega) (by omega) hzs
    have hsplit : cs.drop acc = (cs.drop acc).take (P.cellsOf (ty x)) ++ cs.drop (acc + P.cellsOf (ty x)) := by
      rw [← List.drop_drop]; exact (List.take_append_drop _ _).symm
    rw [hsplit]
    have l1 := r1.len
    have l2 := r2.len
    simp only [flat_agg] at l2
    refine ⟨by simp only [flat_agg, List.map_cons, cellsAll, List.length_append, l1, l2], fun c hc => ?_, fun k y hk => ?_⟩
    · rcases List.mem_append.1 hc with h | h
      · exact r1.one c h
      · exact r2.one c h
    · simp only [flat_agg, List.map_cons, cellsAll] at hk
      by_cases hlt : k < (avOf z.1).flat.length
      · rw [List.getElem?_append_left hlt] at hk
        obtain ⟨c, g1, g2⟩ := r1.rep k y hk
        exact ⟨c, by rw [List.getElem?_append_left (by omega)]; exact g1, g2⟩
      · rw [List.getElem?_append_right (by omega)] at hk
        obtain ⟨c, g1, g2⟩ := r2.rep _ y hk
        exact ⟨c, by rw [List.getElem?_append_right (by omega), ← l1]; exact g1, g2⟩

theorem foldl_contig (P : Program) : ∀ (fs : List Field) (a tot : Nat), fs.foldl (fun (acc : Option Nat) f => acc.bind fun a => if f.offset == a then some (a + P.cellsOf f.type) else none) (some a) = some tot →
    (∀ (i : Nat) (x : Field), fs[i]? = some x → x.offset = a + ((fs.take i).map fun y => P.cellsOf y.type).sum) ∧ a + (fs.map fun y => P.cellsOf y.type).sum = tot := by
  intro fs
  induction fs with
  | nil => intro a tot h; simp only [List.foldl_nil, Option.some.injEq] at h; subst h; exact ⟨fun i x h => by simp at h, by simp⟩
  | cons f fs ih =>
    intro a tot h
    simp only [List.foldl_cons, Option.bind_some] at h
    by_cases hf : f.offset == a
    · rw [if_pos hf] at h
      obtain ⟨h1, h2⟩ := ih _ _ h
      have hf' : f.offset = a := by simpa using hf
      refine ⟨fun i x hx => ?_, by simp only [List.map_cons, List.sum_cons]; omega⟩
      cases i with
      | zero => simp at hx; subst hx; simpa using hf'
      | succ i =>
        simp only [List.getElem?_cons_succ] at hx
        rw [h1 i x hx]
        simp only [List.take_succ_cons, List.map_cons, List.sum_cons]; omega
    · rw [if_neg hf] at h
      have : ∀ (l : List Field), l.foldl (fun (acc : Option Nat) f => acc.bind fun a => if f.offset == a then some (a + P.cellsOf f.type) else none) none = none := by
        intro l; induction l with
        | nil => rfl
        | cons _ _ ih => simpa using ih
      rw [this] at h; cases h

theorem trod_slice_inv {fuel : Nat} {t e : TypeId} {cs : List Value} {d : DataW H} {ps : List MemPlace} (hu : P.underlying t = some (.slice e)) (h : DataW.trod enc P w 0 spare held (fuel + 1) t cs = some (d, ps)) :
    (cs = [.slice none 0 0] ∧ d = .nil) ∨ ∃ a len cap elems rest, cs = [.slice (some a) len cap] ∧ d = .slice (elems.map (·.1)) rest ∧ len ≤ cap ∧ cap ≤ maxLen ∧
      (List.range len).mapM (fun i => (w.cells? 0 (a.add (i * P.cellsOf e)) (P.cellsOf e)).bind (DataW.trod enc P w 0 spare held fuel e)) = some elems := by
  rcases cs with _ | ⟨c, _ | ⟨c', cs⟩⟩
  · simp [DataW.trod, hu] at h
  · cases c <;> try (simp [DataW.trod, hu] at h; done)
    rename_i a len cap
    cases a with
    | none =>
      cases len <;> cases cap <;> simp [DataW.trod, hu] at h
      exact .inl ⟨rfl, h.1.symm⟩
    | some a =>
      simp only [DataW.trod, hu] at h
      split at h
      · rename_i hc
        simp only [Option.bind_eq_some_iff, Option.map_eq_some_iff, Prod.mk.injEq] at h
        obtain ⟨elems, h1, rest, h2, rfl, _⟩ := h
        exact .inr ⟨a, len, cap, elems, _, rfl, rfl, hc.2.1, hc.2.2, h1⟩
      · cases h
  · simp [DataW.trod, hu] at h

theorem trod_bool_inv {fuel : Nat} {t : TypeId} {cs : List Value} {d : DataW H} {ps : List MemPlace} (hu : P.underlying t = some .bool) (h : DataW.trod enc P w 0 spare held (fuel + 1) t cs = some (d, ps)) : ∃ b, cs = [.bool b] ∧ d = .lit (.bool b) := by
  rcases cs with _ | ⟨c, _ | ⟨c', cs⟩⟩
  · simp [DataW.trod, hu] at h
  · cases c <;> try (simp [DataW.trod, hu] at h; done)
    rename_i b
    simp only [DataW.trod, hu, Option.some.injEq, Prod.mk.injEq] at h
    exact ⟨b, rfl, h.1.symm⟩
  · simp [DataW.trod, hu] at h

theorem trod_int_inv {fuel : Nat} {t : TypeId} {k : IntKind} {cs : List Value} {d : DataW H} {ps : List MemPlace} (hu : P.underlying t = some (.int k)) (h : DataW.trod enc P w 0 spare held (fuel + 1) t cs = some (d, ps)) : ∃ n, cs = [.int k n] ∧ d = .lit (.int k n) ∧ (Lit.int k n).wf = true := by
  rcases cs with _ | ⟨c, _ | ⟨c', cs⟩⟩
  · simp [DataW.trod, hu] at h
  · cases c <;> try (simp [DataW.trod, hu] at h; done)
    rename_i k' n
    simp only [DataW.trod, hu] at h
    split at h
    · rename_i hk
      obtain ⟨rfl, hwf⟩ := hk
      simp only [Option.some.injEq, Prod.mk.injEq] at h
      exact ⟨n, rfl, h.1.symm, hwf⟩
    · cases h
  · simp [DataW.trod, hu] at h

theorem trod_string_inv {fuel : Nat} {t : TypeId} {cs : List Value} {d : DataW H} {ps : List MemPlace} (hu : P.underlying t = some .string) (h : DataW.trod enc P w 0 spare held (fuel + 1) t cs = some (d, ps)) : ∃ s, cs = [.string s] ∧ d = .lit (.string s.data.toList) := by
  rcases cs with _ | ⟨c, _ | ⟨c', cs⟩⟩
  · simp [DataW.trod, hu] at h
  · cases c <;> try (simp [DataW.trod, hu] at h; done)
    rename_i s
    simp only [DataW.trod, hu] at h
    split at h
    · simp only [Option.some.injEq, Prod.mk.injEq] at h
      exact ⟨s, rfl, h.1.symm⟩
    · cases h
  · simp [DataW.trod, hu] at h

theorem trod_struct_inv {fuel : Nat} {t : TypeId} {fs : Array Field} {cs : List Value} {d : DataW H} {ps : List MemPlace} (hu : P.underlying t = some (.struct fs)) (h : DataW.trod enc P w 0 spare held (fuel + 1) t cs = some (d, ps)) :
    ∃ xs, cs.length = P.cellsOf t ∧ d = .agg (xs.map (·.1)) ∧ fs.toList.mapM (fun f => DataW.trod enc P w 0 spare held fuel f.type ((cs.drop f.offset).take (P.cellsOf f.type))) = some xs := by
  have key : (if cs.length = P.cellsOf t then (fs.toList.mapM fun f => DataW.trod enc P w 0 spare held fuel f.type ((cs.drop f.offset).take (P.cellsOf f.type))).map fun xs => ((.agg (xs.map (·.1)) : DataW H), xs.flatMap (·.2)) else none) = some (d, ps) := by
    rcases cs with _ | ⟨c, _ | ⟨c', cs⟩⟩
    · simpa only [DataW.trod, hu] using h
    · cases c <;> simpa only [DataW.trod, hu] using h
    · simpa only [DataW.trod, hu] using h
  split at key
  · rename_i hl
    obtain ⟨xs, h1, h2⟩ := Option.map_eq_some_iff.1 key
    simp only [Prod.mk.injEq] at h2
    exact ⟨xs, hl, h2.1.symm, h1⟩
  · cases key

theorem trod_array_inv {fuel : Nat} {t e : TypeId} {m : Nat} {cs : List Value} {d : DataW H} {ps : List MemPlace} (hu : P.underlying t = some (.array m e)) (h : DataW.trod enc P w 0 spare held (fuel + 1) t cs = some (d, ps)) :
    ∃ xs, cs.length = P.cellsOf t ∧ d = .agg (xs.map (·.1)) ∧ (List.range m).mapM (fun i => DataW.trod enc P w 0 spare held fuel e ((cs.drop (i * P.cellsOf e)).take (P.cellsOf e))) = some xs := by
  have key : (if cs.length = P.cellsOf t then ((List.range m).mapM fun i => DataW.trod enc P w 0 spare held fuel e ((cs.drop (i * P.cellsOf e)).take (P.cellsOf e))).map fun xs => ((.agg (xs.map (·.1)) : DataW H), xs.flatMap (·.2)) else none) = some (d, ps) := by
    rcases cs with _ | ⟨c, _ | ⟨c', cs⟩⟩
    · simpa only [DataW.trod, hu] using h
    · cases c <;> simpa only [DataW.trod, hu] using h
    · simpa only [DataW.trod, hu] using h
  split at key
  · rename_i hl
    obtain ⟨xs, h1, h2⟩ := Option.map_eq_some_iff.1 key
    simp only [Prod.mk.injEq] at h2
    exact ⟨xs, hl, h2.1.symm, h1⟩
  · cases key

theorem addr_add_some {b off q : Nat} {sp : Option Nat} (h : sp = none) (n : Nat) (hn : n = off + q) : (⟨b, off, sp⟩ : Addr).add q = ⟨b, n, none⟩ := by
  subst h hn; exact addr_add b off q

theorem cells?_get {a : Addr} {n : Nat} {seg : List Value} (h : w.cells? 0 a n = some seg) : seg.length = n ∧ ∀ (j : Nat) (c : Value), seg[j]? = some c → w.cell? (a.add j) = some c := by
  unfold World.cells? at h
  rw [if_pos (Nat.zero_le _)] at h
  obtain ⟨h1, h2⟩ := mapM_some _ _ _ h
  refine ⟨by simpa using h1, fun j c hc => ?_⟩
  have hj : j < n := by have := (List.getElem?_eq_some_iff.1 hc).1; rw [h1] at this; simpa using this
  obtain ⟨y, g1, g2⟩ := h2 j j (by simp [hj])
  rw [g1] at hc; cases hc; exact g2

theorem reads_of_trod (hw : C.w = w) (hbad : ∀ b, ¬ C.bad b) : ∀ (fuel n : Nat) (t : TypeId) (cs : List Value) (d : DataW H) (ps : List MemPlace), plainTy P n t = true →
    DataW.trod enc P w 0 spare held fuel t cs = some (d, ps) → ReadsAs C cs (avOf d) := by
  intro fuel
  induction fuel with
  | zero => intro n t cs d ps _ h; simp [DataW.trod] at h
  | succ fuel ih =>
    intro n t cs d ps hp h
    cases n with
    | zero => simp [plainTy] at hp
    | succ n =>
    unfold plainTy at hp
    split at hp
    · rename_i hu
      obtain ⟨b, rfl, rfl⟩ := trod_bool_inv hu h
      exact readsAs_one rfl (.imm _ rfl)
    · rename_i k hu
      obtain ⟨q, rfl, rfl, _⟩ := trod_int_inv hu h
      exact readsAs_one rfl (.imm _ rfl)
    · rename_i hu
      obtain ⟨q, rfl, rfl⟩ := trod_string_inv hu h
      refine readsAs_one (c := .string q) rfl ?_
      have : (⟨q.data.toList.toArray⟩ : ByteArray) = q := by cases q; simp
      simp only [avOf, this]
      exact .imm _ rfl
    · -- slice
      rename_i e hu
      simp only [Bool.and_eq_true, bne_iff_ne, ne_eq] at hp
      obtain ⟨hs0, hpe⟩ := hp
      rcases trod_slice_inv hu h with ⟨rfl, rfl⟩ | ⟨a, len, cap, elems, rest, rfl, rfl, hlc, _, hm⟩
      · exact readsAs_one rfl (.slNil _ _)
      · obtain ⟨l1, l2⟩ := mapM_some _ _ _ hm
        simp only [List.length_range] at l1
        refine readsAs_one rfl ?_
        simp only [avOf, avAll_map, List.map_map]
        subst l1
        by_cases h0 : elems = []
        · subst h0; exact .slNil _ _
        · have hpos : 0 < elems.length := List.length_pos_iff.2 h0
          obtain ⟨b, off, sp⟩ := a
          -- each element's cells
          have hel : ∀ i, i < elems.length → ∃ seg z, elems[i]? = some z ∧ w.cells? 0 ((⟨b, off, sp⟩ : Addr).add (i * P.cellsOf e)) (P.cellsOf e) = some seg ∧ ReadsAs C seg (avOf z.1) := fun i hi => by
            obtain ⟨z, g1, g2⟩ := l2 i i (by simp [hi])
            obtain ⟨seg, g3, g4⟩ := Option.bind_eq_some_iff.1 g2
            exact ⟨seg, z, g1, g3, ih n e seg z.1 z.2 hpe g4⟩
          have hsp : sp = none := by
            obtain ⟨seg, z, _, g2, _⟩ := hel 0 hpos
            obtain ⟨q1, q2⟩ := cells?_get g2
            have hs : 0 < seg.length := by omega
            have := q2 0 _ (List.getElem?_eq_getElem hs)
            rw [Nat.zero_mul] at this
            cases sp with
            | none => rfl
            | some x => simp [Addr.add, World.cell?] at this; split at this <;> simp at this
          subst hsp
          have cell : ∀ (i j : Nat) (q x : AV), (elems.map (avOf ∘ (·.1)))[i]? = some q → q.flat[j]? = some x → ∃ v, Holds C.w b (off + i * P.cellsOf e + j) v ∧ Rep C x v := fun i j q x hq hx => by
            have hi : i < elems.length := by have := (List.getElem?_eq_some_iff.1 hq).1; simpa using this
            obtain ⟨seg, z, g1, g2, g3⟩ := hel i hi
            simp only [List.getElem?_map, g1, Option.map_some, Function.comp, Option.some.injEq] at hq
            subst hq
            obtain ⟨c, g4, g5⟩ := g3.rep j x hx
            have := (cells?_get g2).2 j c g4
            rw [addr_add, addr_add] at this
            exact ⟨c, ⟨by rw [hw]; exact this, g3.one c (List.mem_of_getElem? g4)⟩, g5⟩
          have hfl : ∀ (i : Nat) (q : AV), (elems.map (avOf ∘ (·.1)))[i]? = some q → q.flat.length = P.cellsOf e := fun i q hq => by
            have hi : i < elems.length := by have := (List.getElem?_eq_some_iff.1 hq).1; simpa using this
            obtain ⟨seg, z, g1, g2, g3⟩ := hel i hi
            simp only [List.getElem?_map, g1, Option.map_some, Function.comp, Option.some.injEq] at hq
            subst hq
            rw [g3.len]; exact (cells?_get g2).1
          have hb : b < C.w.heap.size := by
            obtain ⟨seg, z, g1, g2, g3⟩ := hel 0 hpos
            have hs : 0 < (avOf z.1).flat.length := by
              rw [hfl 0 _ (by simp [g1])]; omega
            obtain ⟨v, g4, _⟩ := cell 0 0 _ _ (by simp [g1]) (List.getElem?_eq_getElem hs)
            have := g4.1
            unfold World.cell? at this
            split at this
            · rename_i h9; exact (Array.getElem?_eq_some_iff.1 h9).1
            · cases this
          have hlen : (elems.map (avOf ∘ (·.1))).length = elems.length := by simp
          have := Rep.sl (C := C) (elems.map (avOf ∘ (·.1))) b off (P.cellsOf e) cap (fun i j => (C.w.cell? ⟨b, off + i * P.cellsOf e + j, none⟩).getD undef) hb (hbad b) (by rw [hlen]; exact hlc) hfl
            (fun i j q x hq hx => by
              obtain ⟨v, g1, g2⟩ := cell i j q x hq hx
              rw [g1.1]; exact g1)
            (fun i j q x hq hx => by
              obtain ⟨v, g1, g2⟩ := cell i j q x hq hx
              rw [g1.1]; exact g2)
          rw [hlen] at this
          exact this
    · -- struct
      rename_i fs hu
      rw [Bool.and_eq_true, List.all_eq_true] at hp
      obtain ⟨hpf, hct⟩ := hp
      rw [beq_iff_eq] at hct
      obtain ⟨xs, hl, rfl, hm⟩ := trod_struct_inv hu h
      obtain ⟨c1, c2⟩ := foldl_contig P fs.toList 0 _ hct
      have := reads_segs (C := C) (P := P) (w := w) (enc := enc) (spare := spare) (held := held) (fun f : Field => f.type) (fun f => f.offset) fuel cs
        fs.toList 0 xs (fun x hx seg y hy _ => ih n x.type seg y.1 y.2 (hpf x hx) hy) c1 (by rw [hl]; exact c2) hm
      simpa [avOf] using this
    · -- array
      rename_i m e hu
      simp only [Bool.and_eq_true, beq_iff_eq] at hp
      obtain ⟨hpe, hct⟩ := hp
      obtain ⟨xs, hl, rfl, hm⟩ := trod_array_inv hu h
      have hsum : ∀ (l : List Nat), (l.map fun _ => P.cellsOf e).sum = l.length * P.cellsOf e := by
        intro l; induction l with
        | nil => simp
        | cons _ l ih => simp [ih, Nat.add_mul, Nat.add_comm]
      have := reads_segs (C := C) (P := P) (w := w) (enc := enc) (spare := spare) (held := held) (fun _ : Nat => e) (fun i => i * P.cellsOf e) fuel cs
        (List.range m) 0 xs (fun x _ seg y hy _ => ih n e seg y.1 y.2 hpe hy)
        (fun i x hx => by
          have hi : i < m := by have := (List.getElem?_eq_some_iff.1 hx).1; simpa using this
          have hx' : x = i := by simp [hi] at hx; exact hx.symm
          subst hx'
          rw [hsum]; simp; rw [Nat.min_eq_left (by omega)]) (by rw [hsum, hl]; simpa using hct) hm
      simpa [avOf] using this
    · cases hp
end
end Go.Av
end

section
/- From what a law's function does to what its row asks. -/
namespace Go.Av
open Go.RowKit (Below)

section
variable {H : Type} {enc : TypeId × Value → H} {P : Program}

theorem trodAll_below (hl : laidOutB P = true) {W W' : World} (hb : Below W.heap.size W W') : ∀ {ts : List TypeId} {vs : List Value} {ds : List (DataW H)} {ps : List MemPlace}, (∀ t ∈ ts, P.readableRec t = true ∧ t < P.types.size) →
    DataW.TrodAll enc P W 0 (fun _ => true) true ts vs ds ps → (∀ x ∈ ps, x.block < W.heap.size) → DataW.TrodAll enc P W' 0 (fun b => decide (b < W.heap.size)) true ts vs ds ps
  | [], [], [], ps, _, h, _ => h
  | t :: ts, v :: vs, d :: ds, ps, hr, h, hlt => by
    obtain ⟨p, q, h1, h2, rfl⟩ := h
    obtain ⟨r1, r2⟩ := hr t (List.mem_cons_self ..)
    exact ⟨p, q, RowKit.Below.trod hl r1 r2 h1 hb (fun x hx => hlt x (List.mem_append_left _ hx)), trodAll_below hl hb (fun t ht => hr t (List.mem_cons_of_mem _ ht)) h2 (fun x hx => hlt x (List.mem_append_right _ hx)), rfl⟩

/-- A law: true, and all that was there is as it was. -/
theorem law_post {fn : Func} {s : ChangeSpec} {W W' : World} {args : Array Value} {ds gs : List (DataW H)} {before : List MemPlace} {tb : TypeId} (hW : DataW.Whole enc P fn.params.toList s.vars false W args.toList ds gs before)
    (hv : s.vars = []) (hfn : s.fn H (ds ++ gs) = ⟨[.lit (.bool true)], ds, []⟩) (hres : fn.resultTypes = #[tb]) (hb : P.underlying tb = some .bool) (hl : laidOutB P = true) (hr : ∀ t ∈ fn.params.toList, P.readableRec t = true ∧ t < P.types.size)
    (hbel : Below W.heap.size W W') : s.post enc P fn false true false false W args (.bool true) W' := by
  have hlt := fun p hp => hW.lt p hp
  have hW' := hW
  obtain ⟨p, q, h1, h2, rfl, h3, h4⟩ := hW
  refine ⟨ds, gs, p ++ q, [], p, [], hW', ?_, ?_, ?_, hbel.frame _, fun h => by cases h⟩
  · rw [hfn, hres]
    show DataW.TrodAll enc P W' _ _ _ [tb] [.bool true] [.lit (.bool true)] []
    exact ⟨[], [], RowKit.shut_bool hb true, rfl, rfl⟩
  · rw [hfn]
    exact trodAll_below hl hbel hr h1 (fun x hx => hlt x (List.mem_append_left _ hx))
  · rw [hfn, hv]; rfl

/-- The context of a call from outside. -/
def Ctx.start (W : World) : Ctx := { w := W, H := .empty, pl := fun _ => ⟨0, 0, 0, 0, false⟩, prot := fun _ => False, dfs := [], pin := 0 }

theorem start_own (W : World) (b : Nat) : ¬ (Ctx.start W).own b := own_none rfl rfl b

theorem start_inv (W : World) : Inv (.of W) (Ctx.start W) where
  fresh id es h := by simp [Ctx.start, Heap.empty, Heap.get, lk] at h
  nil id es h := by simp [Ctx.start, Heap.empty, Heap.get, lk] at h
  obj id es h := by simp [Ctx.start, Heap.empty, Heap.get, lk] at h
  sep i1 i2 e1 e2 h := by simp [Ctx.start, Heap.empty, Heap.get, lk] at h
  prot id es h := by simp [Ctx.start, Heap.empty, Heap.get, lk] at h
  szok id s h := by simp [Ctx.start, Heap.empty, Heap.sz, lk] at h
  protlt _ h := h.elim
  protge _ h := h.elim
  size := Nat.le_refl _
  glob b _ := ⟨rfl, start_own W b⟩
  lps l r h := by simp [Ctx.start, Heap.empty, lk] at h
  dfs d h := by simp [Ctx.start] at h
  dnd := .nil
  rod := fun _ _ => rfl
  spprot b h := absurd (.inr h) (start_own W b)
  pinB := rfl
  pinlt := Nat.zero_le _
  gh := trivial

theorem start_bad (W : World) (b : Nat) : ¬ (Ctx.start W).bad b := by
  rintro (h | h)
  · exact start_own W b h
  · exact h

theorem one_of_okWide {W : World} {base : Nat} {t : TypeId} {v : Value} {n : Nat} (hp : plainTy P n t = true) (h : Value.okWide P W .any base t v) : v.oneCell' = true ∨ ∃ cs, v = .agg cs ∧ ((∃ fs, P.underlying t = some (.struct fs)) ∨ ∃ m e, P.underlying t = some (.array m e)) := by
  cases n with
  | zero => simp [plainTy] at hp
  | succ n =>
    unfold plainTy at hp
    split at hp <;> rename_i hu
    · left; cases v <;> first | rfl | (simp [Value.okWide, Cell.okWide, Cell.ok, hu] at h)
    · left; cases v <;> first | rfl | (simp [Value.okWide, Cell.okWide, Cell.ok, hu] at h)
    · left; cases v <;> first | rfl | (simp [Value.okWide, Cell.okWide, Cell.ok, hu] at h)
    · left; cases v <;> first | rfl | (simp [Value.okWide, Cell.okWide, Cell.ok, hu] at h)
    · right
      simp only [Value.okWide, hu] at h
      obtain ⟨cs, rfl, _⟩ := h
      exact ⟨cs, rfl, .inl ⟨_, hu⟩⟩
    · right
      simp only [Value.okWide, hu] at h
      obtain ⟨cs, rfl, _⟩ := h
      exact ⟨cs, rfl, .inr ⟨_, _, hu⟩⟩
    · cases hp

/-- An argument, as the proof sees it. -/
theorem arg_rep {W : World} {base : Nat} {t : TypeId} {v : Value} {d : DataW H} {ps : List MemPlace} (n : Nat) (hp : plainTy P n t = true) (h : DataW.Trod enc P W 0 (fun _ => true) true t v d ps) (hform : Value.okWide P W .any base t v) : Rep (Ctx.start W) (avOf d) v := by
  obtain ⟨fuel, hf⟩ := h
  have hr := reads_of_trod (C := Ctx.start W) rfl (start_bad W) fuel n t v.cells.toList d ps hp hf
  rcases one_of_okWide hp hform with h1 | ⟨cs, rfl, hu⟩
  · rw [cells_one h1] at hr hf
    obtain ⟨c, g1, g2⟩ := hr.rep 0 ((avOf d).flat.getD 0 .any) (by
      have := hr.len
      simp only [List.length_cons, List.length_nil] at this
      rw [List.getD_eq_getElem?_getD]
      cases hq : (avOf d).flat with
      | nil => rw [hq] at this; simp at this
      | cons _ _ => rfl)
    simp only [List.getElem?_cons_zero, Option.some.injEq] at g1
    subst g1
    -- the datum is no aggregate
    have hd : (avOf d).flat = [avOf d] := by
      cases fuel with
      | zero => simp [DataW.trod] at hf
      | succ fuel =>
        cases n with
        | zero => simp [plainTy] at hp
        | succ n =>
          unfold plainTy at hp
          split at hp
          · rename_i hu; obtain ⟨b, _, rfl⟩ := trod_bool_inv hu hf; rfl
          · rename_i k hu; obtain ⟨q, _, rfl, _⟩ := trod_int_inv hu hf; rfl
          · rename_i hu; obtain ⟨q, _, rfl⟩ := trod_string_inv hu hf; rfl
          · rename_i e hu
            rcases trod_slice_inv hu hf with ⟨_, rfl⟩ | ⟨_, _, _, _, _, _, rfl, _⟩ <;> rfl
          · rename_i fs hu
            simp only [Value.okWide, hu] at hform
            obtain ⟨cs, rfl, _⟩ := hform
            simp [Value.oneCell'] at h1
          · rename_i m e hu
            simp only [Value.okWide, hu] at hform
            obtain ⟨cs, rfl, _⟩ := hform
            simp [Value.oneCell'] at h1
          · cases hp
    rw [hd] at g2
    exact g2
  · have hagg : ∃ l, avOf d = .agg l := by
      cases fuel with
      | zero => simp [DataW.trod] at hf
      | succ fuel =>
        rcases hu with ⟨fs, hu⟩ | ⟨m, e, hu⟩
        · obtain ⟨xs, _, rfl, _⟩ := trod_struct_inv hu hf; exact ⟨_, rfl⟩
        · obtain ⟨xs, _, rfl, _⟩ := trod_array_inv hu hf; exact ⟨_, rfl⟩
    obtain ⟨l, hl⟩ := hagg
    rw [hl] at hr ⊢
    have hlen := hr.len
    simp only [flat_agg, Value.cells, Array.length_toList] at hlen
    refine .agg l cs hlen.symm (fun k u hk => hr.one u (by simp [Value.cells]; exact Array.mem_of_getElem? hk)) (fun k x hx => ?_)
    obtain ⟨c, g1, g2⟩ := hr.rep k x hx
    have g1' : cs[k]? = some c := by simpa [Value.cells] using g1
    have hlt := (Array.getElem?_eq_some_iff.1 g1').1
    have : cs.getD k undef = c := by have := getD_of hlt; rw [g1'] at this; exact (Option.some.inj this).symm
    rw [this]; exact g2

/-! ### What a datum of a type is -/

/-- Every datum of a type is one of a family's. -/
def Dec (P : Program) (t : TypeId) {α : Type} (f : α → AV) (ok : α → Prop) : Prop :=
  ∀ {H : Type} (enc : TypeId × Value → H) (w : World) (spare : Nat → Bool) (held : Bool) (fuel : Nat) (cs : List Value) (d : DataW H) (ps : List MemPlace), DataW.trod enc P w 0 spare held fuel t cs = some (d, ps) → ∃ x, ok x ∧ avOf d = f x

theorem dec_u64 {t : TypeId} (hu : P.underlying t = some (.int .u64)) : Dec P t u64 (fun _ => True) := by
  intro H enc w spare held fuel cs d ps h
  cases fuel with
  | zero => simp [DataW.trod] at h
  | succ fuel =>
    obtain ⟨n, _, rfl, hwf⟩ := trod_int_inv hu h
    simp [Lit.wf, IntKind.min, IntKind.max, IntKind.signed, IntKind.bits] at hwf
    refine ⟨BitVec.ofInt 64 n, trivial, ?_⟩
    simp only [avOf, u64]
    have : ((BitVec.ofInt 64 n).toNat : Int) = n := by
      rw [BitVec.toNat_ofInt]; omega
    rw [this]

theorem dec_i64 {t : TypeId} (hu : P.underlying t = some (.int .i64)) : Dec P t i64 (fun n => -9223372036854775808 ≤ n ∧ n ≤ 9223372036854775807) := by
  intro H enc w spare held fuel cs d ps h
  cases fuel with
  | zero => simp [DataW.trod] at h
  | succ fuel =>
    obtain ⟨n, _, rfl, hwf⟩ := trod_int_inv hu h
    simp [Lit.wf, IntKind.min, IntKind.max, IntKind.signed, IntKind.bits] at hwf
    exact ⟨n, by omega, rfl⟩

theorem dec_bool {t : TypeId} (hu : P.underlying t = some .bool) : Dec P t bl (fun _ => True) := by
  intro H enc w spare held fuel cs d ps h
  cases fuel with
  | zero => simp [DataW.trod] at h
  | succ fuel =>
    obtain ⟨n, _, rfl⟩ := trod_bool_inv hu h
    exact ⟨n, trivial, rfl⟩

theorem dec_slice {t e : TypeId} {α : Type} {f : α → AV} {ok : α → Prop} (hu : P.underlying t = some (.slice e)) (he : Dec P e f ok) : Dec P t (fun l : List α => AV.sl (l.map f)) (fun l => (∀ x ∈ l, ok x) ∧ l.length ≤ 9223372036854775807) := by
  intro H enc w spare held fuel cs d ps h
  cases fuel with
  | zero => simp [DataW.trod] at h
  | succ fuel =>
    rcases trod_slice_inv hu h with ⟨_, rfl⟩ | ⟨a, len, cap, elems, rest, _, rfl, hlc, hmx, hm⟩
    · exact ⟨[], by simp, rfl⟩
    · obtain ⟨l1, l2⟩ := mapM_some _ _ _ hm
      have key : ∀ (es : List (DataW H × List MemPlace)), (∀ z ∈ es, ∃ x, ok x ∧ avOf z.1 = f x) → ∃ l : List α, (∀ x ∈ l, ok x) ∧ l.length = es.length ∧ (es.map (·.1)).map avOf = l.map f := by
        intro es
        induction es with
        | nil => intro _; exact ⟨[], by simp, rfl, rfl⟩
        | cons z es ih =>
          intro hz
          obtain ⟨x, g1, g2⟩ := hz z (List.mem_cons_self ..)
          obtain ⟨l, g3, g4, g5⟩ := ih (fun y hy => hz y (List.mem_cons_of_mem _ hy))
          refine ⟨x :: l, ?_, by simp [g4], by simp only [List.map_cons, g2, g5]⟩
          intro y hy
          rcases List.mem_cons.1 hy with rfl | hy
          · exact g1
          · exact g3 y hy
      obtain ⟨l, g1, g2, g3⟩ := key elems (fun z hz => by
        obtain ⟨k, hk⟩ := List.getElem?_of_mem hz
        have hlt := (List.getElem?_eq_some_iff.1 hk).1
        rw [l1] at hlt
        have hlt' : k < len := by simpa using hlt
        obtain ⟨y, q1, q2⟩ := l2 k k (by simp [hlt'])
        rw [hk] at q1; cases q1
        obtain ⟨seg, _, q4⟩ := Option.bind_eq_some_iff.1 q2
        exact he enc w spare held fuel seg z.1 z.2 q4)
      refine ⟨l, ⟨g1, ?_⟩, ?_⟩
      · rw [g2, l1]
        have : cap ≤ 9223372036854775807 := hmx
        simp; omega
      · simp only [avOf, avAll_map, g3]

theorem dec_agg {t : TypeId} {fs : Array Field} (hu : P.underlying t = some (.struct fs)) {H : Type} {enc : TypeId × Value → H} {w : World} {spare : Nat → Bool} {held : Bool} {fuel : Nat} {cs : List Value} {d : DataW H} {ps : List MemPlace} (h : DataW.trod enc P w 0 spare held fuel t cs = some (d, ps)) :
    ∃ fuel' xs, avOf d = .agg (cellsAll (xs.map (·.1))) ∧ fs.toList.mapM (fun f => DataW.trod enc P w 0 spare held fuel' f.type ((cs.drop f.offset).take (P.cellsOf f.type))) = some xs := by
  cases fuel with
  | zero => simp [DataW.trod] at h
  | succ fuel =>
    obtain ⟨xs, _, rfl, hm⟩ := trod_struct_inv hu h
    exact ⟨fuel, xs, rfl, hm⟩

theorem dec_struct2 {t : TypeId} {f1 f2 : Field} {α β : Type} {f : α → AV} {g : β → AV} {ok1 : α → Prop} {ok2 : β → Prop} (hu : P.underlying t = some (.struct #[f1, f2])) (h1 : Dec P f1.type f ok1) (h2 : Dec P f2.type g ok2) :
    Dec P t (fun x : α × β => AV.agg ((f x.1).flat ++ (g x.2).flat)) (fun x => ok1 x.1 ∧ ok2 x.2) := by
  intro H enc w spare held fuel cs d ps h
  obtain ⟨fuel', xs, e1, e2⟩ := dec_agg hu h
  simp only [List.mapM_cons, List.mapM_nil, Option.bind_eq_bind, Option.bind_eq_some_iff, Option.pure_def, Option.some.injEq] at e2
  obtain ⟨y1, q1, _, ⟨y2, q2, _, rfl, rfl⟩, rfl⟩ := e2
  obtain ⟨x1, p1, p2⟩ := h1 _ _ _ _ _ _ _ _ q1
  obtain ⟨x2, p3, p4⟩ := h2 _ _ _ _ _ _ _ _ q2
  exact ⟨(x1, x2), ⟨p1, p3⟩, by rw [e1]; simp [cellsAll, p2, p4]⟩

theorem dec_struct3 {t : TypeId} {f1 f2 f3 : Field} {α β γ : Type} {f : α → AV} {g : β → AV} {k : γ → AV} {ok1 : α → Prop} {ok2 : β → Prop} {ok3 : γ → Prop} (hu : P.underlying t = some (.struct #[f1, f2, f3])) (h1 : Dec P f1.type f ok1) (h2 : Dec P f2.type g ok2) (h3 : Dec P f3.type k ok3) :
    Dec P t (fun x : α × β × γ => AV.agg ((f x.1).flat ++ ((g x.2.1).flat ++ (k x.2.2).flat))) (fun x => ok1 x.1 ∧ ok2 x.2.1 ∧ ok3 x.2.2) := by
  intro H enc w spare held fuel cs d ps h
  obtain ⟨fuel', xs, e1, e2⟩ := dec_agg hu h
  simp only [List.mapM_cons, List.mapM_nil, Option.bind_eq_bind, Option.bind_eq_some_iff, Option.pure_def, Option.some.injEq] at e2
  obtain ⟨y1, q1, _, ⟨y2, q2, _, ⟨y3, q3, _, rfl, rfl⟩, rfl⟩, rfl⟩ := e2
  obtain ⟨x1, p1, p2⟩ := h1 _ _ _ _ _ _ _ _ q1
  obtain ⟨x2, p3, p4⟩ := h2 _ _ _ _ _ _ _ _ q2
  obtain ⟨x3, p5, p6⟩ := h3 _ _ _ _ _ _ _ _ q3
  exact ⟨(x1, x2, x3), ⟨p1, p3, p5⟩, by rw [e1]; simp [cellsAll, p2, p4, p6]⟩

theorem dec_map {t : TypeId} {α β : Type} {f : α → AV} {g : β → AV} {ok1 : α → Prop} {ok2 : β → Prop} (h : Dec P t f ok1) (φ : α → β) (hf : ∀ x, f x = g (φ x)) (hok : ∀ x, ok1 x → ok2 (φ x)) : Dec P t g ok2 := by
  intro H enc w spare held fuel cs d ps hh
  obtain ⟨x, h1, h2⟩ := h enc w spare held fuel cs d ps hh
  exact ⟨φ x, hok x h1, by rw [h2, hf]⟩

/-- What comes of a law's function: its row's post. -/
theorem law_calls {f : FuncId} {fn : Func} {s : ChangeSpec} {W : World} {args : Array Value} {ds gs : List (DataW H)} {before : List MemPlace} {tb : TypeId} {xs : List AV} (hf : Fun1 P W f xs (bl true)) (hsz : args.size = xs.length)
    (hrep : ∀ (k : Nat) (x : AV), xs[k]? = some x → Rep (Ctx.start W) x (args.getD k undef)) (hW : DataW.Whole enc P fn.params.toList s.vars false W args.toList ds gs before)
    (hv : s.vars = []) (hfn : s.fn H (ds ++ gs) = ⟨[.lit (.bool true)], ds, []⟩) (hres : fn.resultTypes = #[tb]) (hb : P.underlying tb = some .bool) (hl : laidOutB P = true) (hr : ∀ t ∈ fn.params.toList, P.readableRec t = true ∧ t < P.types.size) :
    Calls P f args W fun e W' => ∃ v, e = .returned v ∧ s.post enc P fn false true false false W args v W' := by
  refine (hf.runs (Ctx.start W) args (start_inv W) rfl rfl hsz hrep).mono ?_
  rintro e W' ⟨v, C', rfl, rfl, hE, _, hv'⟩
  obtain rfl := rep_toV (v := .bool true) rfl hv'
  exact ⟨_, rfl, law_post hW hv hfn hres hb hl hr (below_of_ext hE (start_own W))⟩

end
end Go.Av
end

section
/- From a row's argument to what a proof sees of it. -/
namespace Go.Av
open Go.ChangeShapes Go.WideShapes Go.ChangeAt Go.RowKit
variable {P : Program} {H : Type} {enc : TypeId × Value → H}

/-- An argument of a plain type: one of a family's. -/
theorem arg_dec {W : World} {base : Nat} {t : TypeId} {v : Value} {d : DataW H} {ps : List MemPlace} {α : Type} {f : α → AV} {ok : α → Prop} (n : Nat) (hp : plainTy P n t = true) (hd : Dec P t f ok) (h : DataW.Trod enc P W 0 (fun _ => true) true t v d ps) (hform : Value.okWide P W .any base t v) : ∃ x, ok x ∧ Rep (Ctx.start W) (f x) v := by
  have h1 := arg_rep n hp h hform
  obtain ⟨fuel, hf⟩ := h
  obtain ⟨x, h2, h3⟩ := hd enc W _ _ fuel _ d ps hf
  exact ⟨x, h2, h3 ▸ h1⟩

theorem params_ok {fn : Func} (h : (fn.params.toList.all fun t => P.readableRec t && decide (t < P.types.size)) = true) : ∀ t ∈ fn.params.toList, P.readableRec t = true ∧ t < P.types.size := fun t ht => by
  have := List.all_eq_true.1 h t ht
  simpa using this

theorem tab_of {W : World} {name : String} {l : List Nat} {g : Nat} (h : Lib.TabIs P W name .u8 (l.map fun (k : Nat) => (k : Int))) (hg : P.globalNamed name = some g) : ∀ (j : Nat) (v : Value), (l.map fun (k : Nat) => Value.int .u8 (k : Int))[j]? = some v → W.cell? ⟨g, j, none⟩ = some v ∧ v.oneCell' = true := fun j v hj => by
  simp only [List.getElem?_map, Option.map_eq_some_iff] at hj
  obtain ⟨k, hk, rfl⟩ := hj
  have hlt := (List.getElem?_eq_some_iff.1 hk).1
  have := h.cell hg j (by simpa using hlt)
  rw [this]
  refine ⟨?_, rfl⟩
  simp [List.getD, hk]

/-- The arguments, one by one. -/
theorem reps_nil {C : Ctx} : ∀ (k : Nat) (x : AV), ([] : List AV)[k]? = some x → Rep C x ((#[] : Array Value).getD k undef) := fun k x h => by cases h
theorem reps1 {C : Ctx} {x0 : AV} {v0 : Value} (h0 : Rep C x0 v0) : ∀ (k : Nat) (x : AV), [x0][k]? = some x → Rep C x (#[v0].getD k undef) := fun k x h => by
  match k with
  | 0 => cases h; exact h0
  | k + 1 => cases h
theorem reps2 {C : Ctx} {x0 x1 : AV} {v0 v1 : Value} (h0 : Rep C x0 v0) (h1 : Rep C x1 v1) : ∀ (k : Nat) (x : AV), [x0, x1][k]? = some x → Rep C x (#[v0, v1].getD k undef) := fun k x h => by
  match k with
  | 0 => cases h; exact h0
  | 1 => cases h; exact h1
  | k + 2 => cases h
theorem reps3 {C : Ctx} {x0 x1 x2 : AV} {v0 v1 v2 : Value} (h0 : Rep C x0 v0) (h1 : Rep C x1 v1) (h2 : Rep C x2 v2) : ∀ (k : Nat) (x : AV), [x0, x1, x2][k]? = some x → Rep C x (#[v0, v1, v2].getD k undef) := fun k x h => by
  match k with
  | 0 => cases h; exact h0
  | 1 => cases h; exact h1
  | 2 => cases h; exact h2
  | k + 3 => cases h
theorem reps4 {C : Ctx} {x0 x1 x2 x3 : AV} {v0 v1 v2 v3 : Value} (h0 : Rep C x0 v0) (h1 : Rep C x1 v1) (h2 : Rep C x2 v2) (h3 : Rep C x3 v3) : ∀ (k : Nat) (x : AV), [x0, x1, x2, x3][k]? = some x → Rep C x (#[v0, v1, v2, v3].getD k undef) := fun k x h => by
  match k with
  | 0 => cases h; exact h0
  | 1 => cases h; exact h1
  | 2 => cases h; exact h2
  | 3 => cases h; exact h3
  | k + 4 => cases h
theorem reps5 {C : Ctx} {x0 x1 x2 x3 x4 : AV} {v0 v1 v2 v3 v4 : Value} (h0 : Rep C x0 v0) (h1 : Rep C x1 v1) (h2 : Rep C x2 v2) (h3 : Rep C x3 v3) (h4 : Rep C x4 v4) : ∀ (k : Nat) (x : AV), [x0, x1, x2, x3, x4][k]? = some x → Rep C x (#[v0, v1, v2, v3, v4].getD k undef) := fun k x h => by
  match k with
  | 0 => cases h; exact h0
  | 1 => cases h; exact h1
  | 2 => cases h; exact h2
  | 3 => cases h; exact h3
  | 4 => cases h; exact h4
  | k + 5 => cases h
end Go.Av
end
