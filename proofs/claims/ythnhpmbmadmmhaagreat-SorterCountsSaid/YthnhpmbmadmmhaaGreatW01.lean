/- Part 2 of this claim: an abstract interpreter over the model, its soundness, and what is run in it. -/
import Derived.Laws.Cells
import Derived.Laws.IdiomCopy
import Derived.ChangeKeysEq
import Derived.WideLaws
import Derived.Laws.StructEq
import Derived.Test.YthnhpmbmadmmhaaGreatW00
set_option maxRecDepth 20000
set_option linter.unusedSimpArgs false
set_option linter.unusedVariables false
/- Steps of the abstract state beside steps of the world: new blocks, turned blocks, the frame's own boxes. -/
namespace Wab
open Go

theorem HRel.blk_lt {C : Ctx} (h : HRel C) {id : Nat} (hi : C.live id) : (C.mu id).blk < C.H.size := by
  obtain ⟨b, _, hb⟩ := h.here id hi
  have key : ∀ o, C.H[(C.mu id).blk]? = some o → (C.mu id).blk < C.H.size := fun o ho => (Array.getElem?_eq_some_iff.1 ho).1
  cases b with
  | cells v ty cs fz sx => simp only [blockRel] at hb; obtain ⟨arr, fr, h1, _⟩ := hb; exact key _ h1
  | amap es c => simp only [blockRel] at hb; obtain ⟨ces, h1, _⟩ := hb; exact key _ h1
  | siter s p => simp only [blockRel] at hb; obtain ⟨b, h1, _⟩ := hb; exact key _ h1

theorem HRel.own_lt {C : Ctx} (h : HRel C) {b : Nat} (hb : C.Own b) : b < C.H.size := by
  obtain ⟨id, hi, rfl⟩ := hb; exact h.blk_lt hi

theorem V.trans {A B C : Ctx} (h : V A B) (k : V B C) (hs : A.H.size ≤ B.H.size) : V A C := by
  refine ⟨fun id hi => k.live id (h.live id hi), fun id hi m => k.maps id (h.live id hi) (h.maps id hi m), fun id hi => ?_, fun b hb h1 h2 => ?_⟩
  · obtain ⟨p1, p2⟩ := h.ids id hi
    obtain ⟨q1, q2⟩ := k.ids id (h.live id hi)
    refine ⟨Nat.le_trans p1 q1, fun e => ?_⟩
    obtain ⟨a1, a2, a3⟩ := p2 (by omega)
    obtain ⟨b1, b2, b3⟩ := q2 (by omega)
    exact ⟨b1.trans a1, Nat.le_trans a2 b2, b3.trans a3⟩
  · obtain ⟨a1, a2, a3⟩ := h.imm b hb h1 h2
    obtain ⟨b1, b2, b3⟩ := k.imm b (Nat.lt_of_lt_of_le hb hs) a2 a3
    exact ⟨b1.trans a1, b2, b3⟩

/-- A new block of the abstract heap's, at a free place k. -/
def Ctx.pushAt (C : Ctx) (k : Nat) (next : Nat) (o : Obj) (b : ABlock) : Ctx :=
  { σ := { C.σ with next := next, m := C.σ.m.set k (some b) }, H := C.H.push o, mu := fun i => if i = k then ⟨C.H.size, 0⟩ else C.mu i, F := C.F }

abbrev Ctx.push (C : Ctx) (o : Obj) (b : ABlock) : Ctx := C.pushAt C.σ.next (C.σ.next + 1) o b

theorem get_push (h : AHeap) (b : ABlock) (id : Nat) : (h.push b).m.get id = if id = h.next then some b else h.m.get id := by
  simp [AHeap.push, Tr.get_set]

theorem get_put (h : AHeap) (k : Nat) (b : ABlock) (id : Nat) : (h.put k b).m.get id = if id = k then some b else h.m.get id := by
  simp [AHeap.put, Tr.get_set]

theorem HRel.lt {C : Ctx} (h : HRel C) {id : Nat} (hi : C.live id) : id < C.σ.next := by
  rcases Nat.lt_or_ge id C.σ.next with h1 | h1
  · exact h1
  · have := h.gone id h1; unfold Ctx.live at hi; rw [this] at hi; cases hi

theorem live_of_get {C : Ctx} {id : Nat} {b : ABlock} (h : C.σ.m.get id = some b) : C.live id := by unfold Ctx.live; rw [h]; rfl

section pushAt
variable {C : Ctx} {k next : Nat} {o : Obj} {b : ABlock}

theorem pushAt_get (id : Nat) : (C.pushAt k next o b).σ.m.get id = if id = k then some b else C.σ.m.get id := by
  simp [Ctx.pushAt, Tr.get_set]

theorem pushAt_live {id : Nat} : (C.pushAt k next o b).live id ↔ id = k ∨ C.live id := by
  unfold Ctx.live; rw [pushAt_get]
  by_cases h : id = k
  · simp [h]
  · simp [h]

theorem pushAt_V (h : HRel C) (hk : C.σ.m.get k = none) : V C (C.pushAt k next o b) := by
  have hne : ∀ id, C.live id → id ≠ k := fun id hi e => by subst e; unfold Ctx.live at hi; rw [hk] at hi; cases hi
  have hg : ∀ id, C.live id → (C.pushAt k next o b).σ.m.get id = C.σ.m.get id := fun id hi => by rw [pushAt_get, if_neg (hne id hi)]
  have hm : ∀ id, C.live id → (C.pushAt k next o b).mu id = C.mu id := fun id hi => by simp only [Ctx.pushAt]; rw [if_neg (hne id hi)]
  refine ⟨fun id hi => pushAt_live.2 (.inr hi), fun id hi m => ?_, fun id hi => ?_, fun j hj h1 h2 => ?_⟩
  · obtain ⟨es, c, m⟩ := m; exact ⟨es, c, by rw [hg id hi]; exact m⟩
  · refine ⟨by simp [Ctx.ver, hg id hi], fun _ => ⟨hm id hi, by simp [Ctx.known, hg id hi], ?_⟩⟩
    simp only [Ctx.asize, hm id hi]
    have := h.blk_lt hi
    simp only [sizeH, Ctx.pushAt]
    rw [Array.getElem?_push, if_neg (by omega)]
  · refine ⟨by simp only [Ctx.pushAt]; rw [Array.getElem?_push, if_neg (by omega)], ?_, h2⟩
    rintro ⟨id, hi, hb⟩
    by_cases he : id = k
    · subst he; simp only [Ctx.pushAt, if_true] at hb; omega
    · rcases pushAt_live.1 hi with h3 | h3
      · exact he h3
      · rw [hm id h3] at hb; exact h1 ⟨id, h3, hb⟩

theorem pushAt_H (h : HRel C) (hk : C.σ.m.get k = none) (hkn : k < next) (hn : C.σ.next ≤ next) (hb : blockRel (C.pushAt k next o b) ⟨C.H.size, 0⟩ b) : HRel (C.pushAt k next o b) := by
  have v := pushAt_V (next := next) (o := o) (b := b) h hk
  have hm : ∀ id, id ≠ k → (C.pushAt k next o b).mu id = C.mu id := fun id hi => by simp only [Ctx.pushAt]; rw [if_neg hi]
  have hmk : (C.pushAt k next o b).mu k = ⟨C.H.size, 0⟩ := by simp [Ctx.pushAt]
  have hl : ∀ id, id ≠ k → (C.pushAt k next o b).live id → C.live id := fun id hi hh => (pushAt_live.1 hh).resolve_left hi
  refine ⟨fun id hi => ?_, fun id hi => ?_, fun i j hi hj e => ?_, fun i hi => ?_, fun k hk => ?_, ?_⟩
  · by_cases he : id = k
    · subst he
      exact ⟨b, by rw [pushAt_get, if_pos rfl], by rw [hmk]; exact hb⟩
    · have hi' := hl id he hi
      obtain ⟨b', g, r⟩ := h.here id hi'
      refine ⟨b', by rw [pushAt_get, if_neg he]; exact g, ?_⟩
      rw [hm id he]
      refine blockRel_mono v ?_ r
      have := h.blk_lt hi'
      simp only [Ctx.pushAt]; rw [Array.getElem?_push, if_neg (by omega)]
  · have hi' : next ≤ id := hi
    rw [pushAt_get, if_neg (by omega)]; exact h.gone id (by omega)
  · by_cases h1 : i = k <;> by_cases h2 : j = k
    · omega
    · subst h1; rw [hmk, hm j h2] at e; have := h.blk_lt (hl j h2 hj); simp only at e; omega
    · subst h2; rw [hmk, hm i h1] at e; have := h.blk_lt (hl i h1 hi); simp only at e; omega
    · rw [hm i h1, hm j h2] at e; exact h.inj i j (hl i h1 hi) (hl j h2 hj) e
  · by_cases h1 : i = k
    · subst h1; rw [hmk]; intro hf; have := h.small _ hf; simp only at this; omega
    · rw [hm i h1]; exact h.free i (hl i h1 hi)
  · simp only [Ctx.pushAt, Array.size_push]; have := h.small k hk; omega
  · have := h.lock; simp only [Ctx.pushAt]; omega
end pushAt

theorem fresh {C : Ctx} (h : HRel C) : C.σ.m.get C.σ.next = none := h.gone _ (Nat.le_refl _)

theorem push_V {C : Ctx} (h : HRel C) (o : Obj) (b : ABlock) : V C (C.push o b) := pushAt_V h (fresh h)
theorem push_H {C : Ctx} (h : HRel C) (o : Obj) (b : ABlock) (hb : blockRel (C.push o b) ⟨C.H.size, 0⟩ b) : HRel (C.push o b) :=
  pushAt_H h (fresh h) (by omega) (by omega) hb

theorem cellH_push_new (H : Array Obj) (arr : Array Value) (ty : Nat) (fr : Nat × Nat) (o : Nat) : cellH (H.push (.cells arr ty fr)) H.size o = arr[o]? := by
  simp [cellH]

theorem push_cells {C : Ctx} (h : HRel C) {arr : Array Value} {cs : List AVal} {ty : Nat} {fr : Nat × Nat} {sx : Bool} (hle : cs.length ≤ arr.size)
    (hc : ∀ (i : Nat) (x : AVal), cs[i]? = some x → one x = true ∧ ∃ v, arr[i]? = some v ∧ vrel C x v) (hfr : frOk fr 0 0 sx arr.size) :
    HRel (C.push (.cells arr ty fr) (.cells 0 ty cs 0 sx)) := by
  have v := push_V h (.cells arr ty fr) (.cells 0 ty cs 0 sx)
  refine push_H h _ _ ?_
  simp only [blockRel]
  refine ⟨arr, fr, by simp [Ctx.push, Ctx.pushAt], by simpa using hle, fun j hj => ?_, hfr⟩
  obtain ⟨h1, u, h2, h3⟩ := hc j cs[j] (by simp)
  refine ⟨h1, u, ?_, vrel_mono v _ _ h3⟩
  show cellH (C.H.push _) C.H.size (0 + j) = some u
  rw [cellH_push_new, Nat.zero_add]; exact h2

def bver : ABlock → Nat
  | .cells v _ _ _ _ => v
  | _ => 0
def bknown : ABlock → Nat
  | .cells _ _ cs _ _ => cs.length
  | _ => 0

/-- A block of the abstract heap's is turned. -/
def Ctx.upd (C : Ctx) (id : Nat) (b : ABlock) (l : Loc) (H : Array Obj) : Ctx :=
  { σ := C.σ.put id b, H, mu := fun i => if i = id then l else C.mu i, F := C.F }

theorem upd_live {C : Ctx} {id : Nat} {b : ABlock} {l : Loc} {H : Array Obj} {i : Nat} : (C.upd id b l H).live i ↔ i = id ∨ C.live i := by
  unfold Ctx.live Ctx.upd; simp only [get_put]
  by_cases h : i = id
  · simp [h]
  · simp [h]

structure PutOk (C : Ctx) (id : Nat) (b : ABlock) (l : Loc) (H : Array Obj) : Prop where
  lt : C.live id
  size : C.H.size ≤ H.size
  same : ∀ k, k < C.H.size → k ≠ (C.mu id).blk → H[k]? = C.H[k]?
  loc : l.blk = (C.mu id).blk ∨ C.H.size ≤ l.blk
  map : C.isMap id → ∃ es c, b = .amap es c
  verle : C.ver id ≤ bver b
  keep : bver b = C.ver id → l = C.mu id ∧ C.known id ≤ bknown b ∧ sizeH H l.blk = C.asize id

theorem put_V {C : Ctx} (h : HRel C) {id : Nat} {b : ABlock} {l : Loc} {H : Array Obj} (p : PutOk C id b l H) : V C (C.upd id b l H) := by
  have hv : (C.upd id b l H).ver id = bver b := by
    simp only [Ctx.ver, Ctx.upd, get_put, if_true]; cases b <;> rfl
  have hk : (C.upd id b l H).known id = bknown b := by
    simp only [Ctx.known, Ctx.upd, get_put, if_true]; cases b <;> rfl
  have hg : ∀ i, i ≠ id → (C.upd id b l H).σ.m.get i = C.σ.m.get i := fun i hi => by
    simp only [Ctx.upd, get_put]; rw [if_neg hi]
  have hm : ∀ i, i ≠ id → (C.upd id b l H).mu i = C.mu i := fun i hi => by
    simp only [Ctx.upd]; rw [if_neg hi]
  have hmi : (C.upd id b l H).mu id = l := by simp [Ctx.upd]
  refine ⟨fun i hi => upd_live.2 (.inr hi), fun i hi m => ?_, fun i hi => ?_, fun k hk1 h1 h2 => ?_⟩
  · by_cases he : i = id
    · subst he
      obtain ⟨es, c, hb⟩ := p.map m
      exact ⟨es, c, by simp [Ctx.upd, get_put, hb]⟩
    · obtain ⟨es, c, m⟩ := m; exact ⟨es, c, by rw [hg i he]; exact m⟩
  · by_cases he : i = id
    · subst he
      rw [hv, hk, hmi]
      refine ⟨p.verle, fun e => ?_⟩
      obtain ⟨k1, k2, k3⟩ := p.keep e
      refine ⟨k1, k2, ?_⟩
      simp only [Ctx.asize, hmi]
      exact k3
    · refine ⟨by simp [Ctx.ver, hg i he], fun _ => ⟨hm i he, by simp [Ctx.known, hg i he], ?_⟩⟩
      simp only [Ctx.asize, hm i he, sizeH]
      have hne : (C.mu i).blk ≠ (C.mu id).blk := fun e => he (h.inj i id hi p.lt e)
      show (match H[(C.mu i).blk]? with | some (.cells c _ _) => c.size | _ => 0) = _
      rw [p.same _ (h.blk_lt hi) hne]; rfl
  · have hne : k ≠ (C.mu id).blk := fun e => h1 ⟨id, p.lt, e.symm⟩
    refine ⟨p.same k hk1 hne, ?_, h2⟩
    rintro ⟨i, hi, hb⟩
    by_cases he : i = id
    · subst he
      rw [hmi] at hb
      rcases p.loc with hl | hl
      · exact hne (by rw [← hb, hl])
      · omega
    · rw [hm i he] at hb; exact h1 ⟨i, (upd_live.1 hi).resolve_left he, hb⟩

theorem put_H {C : Ctx} (h : HRel C) {id : Nat} {b : ABlock} {l : Loc} {H : Array Obj} (p : PutOk C id b l H) (hb : blockRel (C.upd id b l H) l b) : HRel (C.upd id b l H) := by
  have v := put_V h p
  have hm : ∀ i, i ≠ id → (C.upd id b l H).mu i = C.mu i := fun i hi => by
    simp only [Ctx.upd]; rw [if_neg hi]
  have hmi : (C.upd id b l H).mu id = l := by simp [Ctx.upd]
  have hl : ∀ i, (C.upd id b l H).live i → C.live i := fun i hi => (upd_live.1 hi).elim (fun e => e ▸ p.lt) fun h => h
  refine ⟨fun i hi => ?_, fun i hi => ?_, fun i j hi hj e => ?_, fun i hi => ?_, fun k hk => ?_, h.lock⟩
  · by_cases he : i = id
    · subst he; exact ⟨b, by simp [Ctx.upd, get_put], by rw [hmi]; exact hb⟩
    · obtain ⟨b', g, r⟩ := h.here i (hl i hi)
      refine ⟨b', by simp only [Ctx.upd, get_put]; rw [if_neg he]; exact g, ?_⟩
      rw [hm i he]
      exact blockRel_mono v (p.same _ (h.blk_lt (hl i hi)) fun e => he (h.inj i id (hl i hi) p.lt e)) r
  · have : C.σ.next ≤ i := hi
    have hlt := h.lt p.lt
    simp only [Ctx.upd, get_put]; rw [if_neg (by omega)]; exact h.gone i hi
  · have key : ∀ i, C.live i → i ≠ id → (C.mu i).blk ≠ l.blk := fun i hi he e => by
      rcases p.loc with hl | hl
      · exact he (h.inj i id hi p.lt (e.trans hl))
      · have := h.blk_lt hi; omega
    by_cases h1 : i = id <;> by_cases h2 : j = id
    · rw [h1, h2]
    · subst h1; rw [hmi, hm j h2] at e; exact absurd e.symm (key j (hl j hj) h2)
    · subst h2; rw [hmi, hm i h1] at e; exact absurd e (key i (hl i hi) h1)
    · rw [hm i h1, hm j h2] at e; exact h.inj i j (hl i hi) (hl j hj) e
  · by_cases he : i = id
    · subst he; rw [hmi]
      rcases p.loc with hl | hl
      · rw [hl]; exact h.free i p.lt
      · intro hf; have := h.small _ hf; omega
    · rw [hm i he]; exact h.free i (hl i hi)
  · exact Nat.lt_of_lt_of_le (h.small k hk) p.size

/-- A new box of a frame's own. -/
def Ctx.newL (C : Ctx) (o : Obj) : Ctx := { C with H := C.H.push o, F := fun b => C.F b ∨ b = C.H.size }

theorem newL_V {C : Ctx} (h : HRel C) (o : Obj) : V C (C.newL o) := by
  refine ⟨fun _ h => h, fun _ _ m => m, fun id hi => ⟨Nat.le_refl _, fun _ => ⟨rfl, Nat.le_refl _, ?_⟩⟩, fun k hk h1 h2 => ⟨?_, h1, ?_⟩⟩
  · have := h.blk_lt hi
    simp only [Ctx.asize, sizeH, Ctx.newL]
    rw [Array.getElem?_push, if_neg (by omega)]
  · simp only [Ctx.newL]; rw [Array.getElem?_push, if_neg (by omega)]
  · rintro (h3 | h3)
    · exact h2 h3
    · omega

theorem newL_H {C : Ctx} (h : HRel C) (o : Obj) : HRel (C.newL o) := by
  have v := newL_V h o
  refine ⟨fun id hi => ?_, h.gone, h.inj, fun i hi => ?_, fun k hk => ?_, h.lock⟩
  · obtain ⟨b, g, r⟩ := h.here id hi
    refine ⟨b, g, blockRel_mono v ?_ r⟩
    have := h.blk_lt hi
    simp only [Ctx.newL]; rw [Array.getElem?_push, if_neg (by omega)]
  · rintro (h3 | h3)
    · exact h.free i hi h3
    · have := h.blk_lt (id := i) hi; simp only [Ctx.newL] at h3; omega
  · simp only [Ctx.newL, Array.size_push]
    rcases hk with h3 | h3
    · have := h.small k h3; omega
    · omega

/-- A box of a frame's own is turned. -/
theorem setL_V {C : Ctx} (h : HRel C) {H : Array Obj} {b0 : Nat} (hf : C.F b0) (same : ∀ k, k ≠ b0 → H[k]? = C.H[k]?) : V C { C with H := H } := by
  refine ⟨fun _ h => h, fun _ _ m => m, fun id hi => ⟨Nat.le_refl _, fun _ => ⟨rfl, Nat.le_refl _, ?_⟩⟩, fun k hk h1 h2 => ⟨same k fun e => h2 (e ▸ hf), h1, h2⟩⟩
  simp only [Ctx.asize, sizeH]
  rw [same _ fun e => h.free id hi (by rw [e]; exact hf)]

theorem setL_H {C : Ctx} (h : HRel C) {H : Array Obj} {b0 : Nat} (hf : C.F b0) (same : ∀ k, k ≠ b0 → H[k]? = C.H[k]?) (hs : H.size = C.H.size) : HRel { C with H := H } := by
  have v := setL_V h hf same
  refine ⟨fun id hi => ?_, h.gone, h.inj, h.free, fun k hk => ?_, h.lock⟩
  · obtain ⟨b, g, r⟩ := h.here id hi
    exact ⟨b, g, blockRel_mono v (same _ fun e => h.free id hi (by rw [e]; exact hf)) r⟩
  · show k < H.size; rw [hs]; exact h.small k hk

/-- What a step leaves alone below block n. -/
structure Stp (n : Nat) (C : Ctx) (w : World) (C' : Ctx) (w' : World) : Prop where
  os : w'.os = w.os
  tape : w'.tape = w.tape
  output : w'.output = w.output
  size : C.H.size ≤ C'.H.size
  next : C.σ.next ≤ C'.σ.next
  v : V C C'
  old : ∀ b, b < n → ¬ C.Own b → C'.H[b]? = C.H[b]? ∧ ¬ C'.Own b
  fs : ∀ b, b < n → (C'.F b ↔ C.F b)
  lock : C'.σ.lock = C.σ.lock
  kept : ∀ id, id < C.σ.lock → C'.σ.m.get id = C.σ.m.get id ∧ C'.mu id = C.mu id

theorem Stp.refl (n : Nat) (C : Ctx) (w : World) : Stp n C w C w :=
  ⟨rfl, rfl, rfl, Nat.le_refl _, Nat.le_refl _, V.refl C, fun _ _ h => ⟨rfl, h⟩, fun _ _ => Iff.rfl, rfl, fun _ _ => ⟨rfl, rfl⟩⟩

theorem Stp.trans {n : Nat} {A B C : Ctx} {u v w : World} (h : Stp n A u B v) (k : Stp n B v C w) : Stp n A u C w :=
  ⟨k.os.trans h.os, k.tape.trans h.tape, k.output.trans h.output, Nat.le_trans h.size k.size, Nat.le_trans h.next k.next, h.v.trans k.v h.size,
    fun b hb ho => ⟨((k.old b hb (h.old b hb ho).2).1).trans (h.old b hb ho).1, (k.old b hb (h.old b hb ho).2).2⟩,
    fun b hb => (k.fs b hb).trans (h.fs b hb), k.lock.trans h.lock,
    fun id hi => ⟨((k.kept id (by rw [h.lock]; exact hi)).1).trans (h.kept id hi).1, ((k.kept id (by rw [h.lock]; exact hi)).2).trans (h.kept id hi).2⟩⟩

theorem Stp.mono {n m : Nat} {A B : Ctx} {u v : World} (h : Stp n A u B v) (hm : m ≤ n) : Stp m A u B v :=
  ⟨h.os, h.tape, h.output, h.size, h.next, h.v, fun b hb => h.old b (Nat.lt_of_lt_of_le hb hm), fun b hb => h.fs b (Nat.lt_of_lt_of_le hb hm), h.lock, h.kept⟩

theorem pushAt_S {C : Ctx} (h : HRel C) (n : Nat) (hn : n ≤ C.H.size) {k next : Nat} (hk : C.σ.m.get k = none) (hkl : C.σ.lock ≤ k) (hnx : C.σ.next ≤ next) (o : Obj) (b : ABlock) {w w' : World}
    (h1 : w'.os = w.os) (h2 : w'.tape = w.tape) (h3 : w'.output = w.output) : Stp n C w (C.pushAt k next o b) w' := by
  refine ⟨h1, h2, h3, by simp [Ctx.pushAt], hnx, pushAt_V h hk, fun j hj ho => ?_, fun _ _ => Iff.rfl, rfl, fun id hi => ?_⟩
  · refine ⟨by simp only [Ctx.pushAt]; rw [Array.getElem?_push, if_neg (by omega)], ?_⟩
    rintro ⟨id, hi, hb⟩
    by_cases he : id = k
    · subst he; simp only [Ctx.pushAt, if_true] at hb; omega
    · simp only [Ctx.pushAt] at hb; rw [if_neg he] at hb
      exact ho ⟨id, (pushAt_live.1 hi).resolve_left he, hb⟩
  · rw [pushAt_get]
    simp only [Ctx.pushAt]
    rw [if_neg (by omega), if_neg (by omega)]
    exact ⟨rfl, rfl⟩

theorem push_S {C : Ctx} (h : HRel C) (n : Nat) (hn : n ≤ C.H.size) (o : Obj) (b : ABlock) {w w' : World} (h1 : w'.os = w.os) (h2 : w'.tape = w.tape) (h3 : w'.output = w.output) : Stp n C w (C.push o b) w' :=
  pushAt_S h n hn (fresh h) h.lock (by omega) o b h1 h2 h3

theorem put_S {C : Ctx} (h : HRel C) (n : Nat) (hn : n ≤ C.H.size) {id : Nat} {b : ABlock} {l : Loc} {H : Array Obj} (p : PutOk C id b l H) (hl : C.σ.lock ≤ id) {w w' : World}
    (h1 : w'.os = w.os) (h2 : w'.tape = w.tape) (h3 : w'.output = w.output) : Stp n C w (C.upd id b l H) w' := by
  refine ⟨h1, h2, h3, p.size, Nat.le_refl _, put_V h p, fun k hk ho => ?_, fun _ _ => Iff.rfl, rfl, fun i hi => ?_⟩
  · have hne : k ≠ (C.mu id).blk := fun e => ho ⟨id, p.lt, e.symm⟩
    refine ⟨p.same k (by omega) hne, ?_⟩
    rintro ⟨i, hi, hb⟩
    simp only [Ctx.upd] at hb
    split at hb
    · rcases p.loc with hl | hl
      · exact hne (by rw [← hb, hl])
      · omega
    · rename_i he; exact ho ⟨i, (upd_live.1 hi).resolve_left he, hb⟩
  · simp only [Ctx.upd, get_put]
    rw [if_neg (by omega), if_neg (by omega)]
    exact ⟨rfl, rfl⟩

theorem newL_S {C : Ctx} (h : HRel C) (n : Nat) (hn : n ≤ C.H.size) (o : Obj) {w w' : World} (h1 : w'.os = w.os) (h2 : w'.tape = w.tape) (h3 : w'.output = w.output) : Stp n C w (C.newL o) w' := by
  refine ⟨h1, h2, h3, by simp [Ctx.newL], Nat.le_refl _, newL_V h o, fun k hk ho => ⟨?_, ho⟩, fun b hb => ?_, rfl, fun _ _ => ⟨rfl, rfl⟩⟩
  · simp only [Ctx.newL]; rw [Array.getElem?_push, if_neg (by omega)]
  · simp only [Ctx.newL]; constructor
    · rintro (h4 | h4)
      · exact h4
      · omega
    · exact Or.inl

theorem setL_S {C : Ctx} (h : HRel C) (n : Nat) {H : Array Obj} {b0 : Nat} (hf : C.F b0) (same : ∀ k, k ≠ b0 → H[k]? = C.H[k]?) (hs : H.size = C.H.size) (hn : n ≤ b0) {w w' : World}
    (h1 : w'.os = w.os) (h2 : w'.tape = w.tape) (h3 : w'.output = w.output) : Stp n C w { C with H := H } w' :=
  ⟨h1, h2, h3, by rw [hs]; exact Nat.le_refl _, Nat.le_refl _, setL_V h hf same, fun k hk ho => ⟨same k (by omega), ho⟩, fun _ _ => Iff.rfl, rfl, fun _ _ => ⟨rfl, rfl⟩⟩

/-- One deferred call. -/
def defRel1 (C : Ctx) (x : AVal × List AVal) (d : Deferred) : Prop :=
  match x.1 with
  | .func fn first cap => ∃ f' c' as', d = { target := .fn fn c', args := f' ++ as' } ∧ vrels C first f'.toList ∧ vrels C cap c'.toList ∧ vrels C x.2 as'.toList
  | _ => False

def defRel (C : Ctx) : List (AVal × List AVal) → List Deferred → Prop
  | [], [] => True
  | x :: xs, d :: ds => defRel1 C x d ∧ defRel C xs ds
  | _, _ => False

theorem defRel_mono {C C' : Ctx} (h : V C C') : ∀ (xs : List (AVal × List AVal)) (ds : List Deferred), defRel C xs ds → defRel C' xs ds
  | [], [], _ => by simp [defRel]
  | [], _ :: _, r => by simp [defRel] at r
  | _ :: _, [], r => by simp [defRel] at r
  | x :: xs, d :: ds, r => by
    simp only [defRel] at r ⊢
    refine ⟨?_, defRel_mono h xs ds r.2⟩
    have r1 := r.1
    obtain ⟨f, as⟩ := x
    cases f <;> simp only [defRel1] at r1 ⊢
    obtain ⟨f', c', as', e, h1, h2, h3⟩ := r1
    exact ⟨f', c', as', e, vrels_mono h _ _ h1, vrels_mono h _ _ h2, vrels_mono h _ _ h3⟩

/-- What a temporary's abstract value says of its value. -/
def trel (C : Ctx) (Lm : Nat → Option Nat) (l : Tr Box) (t : Nat) (x : AVal) (v : Value) : Prop :=
  (∀ d off, x = .loc d off → (∃ bx, l.get d = some bx ∧ (t = d ∨ t ∈ bx.der)) ∧ ∃ b, Lm d = some b ∧ v = .pointer (some ⟨b, off, none⟩)) ∧
  ((∀ d off, x ≠ .loc d off) → vrel C x v)

def boxRel (C : Ctx) (b ty : Nat) (cs : List AVal) : Prop :=
  ∃ arr, C.H[b]? = some (.cells arr ty (0, 0)) ∧ arr.size = cs.length ∧ ∀ (j : Nat) (x : AVal), cs[j]? = some x → holds C b j x

structure Inv (n nt : Nat) (C : Ctx) (Lm : Nat → Option Nat) (s : St) (a : Act) (w : World) : Prop where
  heap : w.heap = C.H
  σ : C.σ = s.h
  hr : HRel C
  base : n ≤ C.H.size
  size : nt ≤ a.tmps.size
  tm : ∀ t, trel C Lm s.l t ((s.t.get t).getD noRes) (a.tmps.getD t undef)
  lo : ∀ d bx, s.l.get d = some bx → ∃ b, Lm d = some b ∧ boxRel C b bx.ty bx.cells
  lb : ∀ d b, Lm d = some b → n ≤ b ∧ b < C.H.size ∧ C.F b
  li : ∀ d d' b, Lm d = some b → Lm d' = some b → d = d'
  de : defRel C s.d a.defers

theorem trel_mono {C C' : Ctx} (h : V C C') {Lm : Nat → Option Nat} {l : Tr Box} {t : Nat} {x : AVal} {v : Value} (r : trel C Lm l t x v) : trel C' Lm l t x v :=
  ⟨r.1, fun hx => vrel_mono h x v (r.2 hx)⟩

theorem boxRel_mono {C C' : Ctx} (h : V C C') {b ty : Nat} {cs : List AVal} (hb : C'.H[b]? = C.H[b]?) (r : boxRel C b ty cs) : boxRel C' b ty cs := by
  obtain ⟨arr, h1, h2, h3⟩ := r
  exact ⟨arr, by rw [hb]; exact h1, h2, fun j x hx => holds_mono h hb (h3 j x hx)⟩

/-- The heap goes on; the frame's own boxes stay. -/
theorem Inv.step {n nt : Nat} {C C' : Ctx} {Lm : Nat → Option Nat} {s : St} {a : Act} {w w' : World} (i : Inv n nt C Lm s a w) (hv : V C C') (hr : HRel C') (hs : C.H.size ≤ C'.H.size)
    (hw : w'.heap = C'.H) {h' : AHeap} (hσ : C'.σ = h') (hl : ∀ d b, Lm d = some b → C'.H[b]? = C.H[b]? ∧ C'.F b) : Inv n nt C' Lm { s with h := h' } a w' :=
  ⟨hw, hσ, hr, Nat.le_trans i.base hs, i.size, fun t => trel_mono hv (i.tm t),
    fun d bx hb => by
      obtain ⟨b, h1, h2⟩ := i.lo d bx hb
      exact ⟨b, h1, boxRel_mono hv (hl d b h1).1 h2⟩,
    fun d b hb => ⟨(i.lb d b hb).1, Nat.lt_of_lt_of_le (i.lb d b hb).2.1 hs, (hl d b hb).2⟩, i.li, defRel_mono hv _ _ i.de⟩

theorem getD_put (a : Act) (d : Nat) (v : Value) (hd : d < a.tmps.size) (t : Nat) : (a.put (some d) v).tmps.getD t undef = if t = d then v else a.tmps.getD t undef := by
  simp only [Act.put, Array.getD_eq_getD_getElem?, Array.getElem?_setIfInBounds]
  by_cases h : t = d
  · subst h; simp [hd]
  · rw [if_neg (Ne.symm h), if_neg h]

/-- A temporary is written. -/
theorem Inv.put {n nt : Nat} {C : Ctx} {Lm : Nat → Option Nat} {s : St} {a : Act} {w : World} (i : Inv n nt C Lm s a w) (dst : Option Nat) (hd : ∀ d, dst = some d → d < nt) {x : AVal} {v : Value}
    (r : ∀ d, dst = some d → trel C Lm s.l d x v) : Inv n nt C Lm (s.put dst x) (a.put dst v) w := by
  cases dst with
  | none => simpa [St.put, Act.put] using i
  | some d =>
    have hlt : d < a.tmps.size := Nat.lt_of_lt_of_le (hd d rfl) i.size
    refine ⟨i.heap, i.σ, i.hr, i.base, by simpa [Act.put] using i.size, fun t => ?_, i.lo, i.lb, i.li, i.de⟩
    rw [getD_put a d v hlt]
    simp only [St.put, Tr.get_set]
    by_cases h : t = d
    · subst h; simp only [if_true, Option.getD_some]; exact r t rfl
    · rw [if_neg h, if_neg h]; exact i.tm t

theorem vrel_noRes (C : Ctx) : vrel C noRes undef := by
  simp [noRes, undef, vrel, vrels]

theorem trel_val {C : Ctx} {Lm : Nat → Option Nat} {l : Tr Box} {t : Nat} {x : AVal} {v : Value} (hx : nl x = some x) (r : vrel C x v) : trel C Lm l t x v :=
  ⟨fun d off e => by subst e; simp [nl] at hx, fun _ => r⟩

theorem nl_some {x y : AVal} (h : nl x = some y) : y = x ∧ ∀ d off, x ≠ .loc d off := by
  cases x <;> simp [nl] at h <;> exact ⟨h.symm, fun _ _ e => by cases e⟩

theorem trel_of_vrel {C : Ctx} {Lm : Nat → Option Nat} {l : Tr Box} {t : Nat} {x : AVal} {v : Value} (r : vrel C x v) : trel C Lm l t x v :=
  ⟨fun d off e => by subst e; simp [vrel] at r, fun _ => r⟩
end Wab
/- What the model's reads and writes of memory come to, beside the abstract ones. -/
namespace Wab
open Go

theorem cell_eq {C : Ctx} {w : World} (h : w.heap = C.H) (b o : Nat) : w.cell? ⟨b, o, none⟩ = cellH C.H b o := by
  simp only [World.cell?, cellH, h]
  cases hb : C.H[b]? with
  | none => rfl
  | some x => cases x <;> simp

theorem add_eq (b o n : Nat) : (⟨b, o, none⟩ : Addr).add n = ⟨b, o + n, none⟩ := by
  unfold Addr.add; split <;> simp_all

section setCells
theorem setCells_other (b k : Nat) (hk : k ≠ b) : ∀ (vs : List Value) (o : Nat) (w : World), (w.setCells b o vs).heap[k]? = w.heap[k]?
  | [], _, _ => rfl
  | v :: r, o, w => by
    rw [World.setCells, setCells_other b k hk r]
    simp only [World.setCell, Array.getElem?_modify]
    rw [if_neg (fun e => hk e.symm)]

theorem setCells_size (b : Nat) : ∀ (vs : List Value) (o : Nat) (w : World), (w.setCells b o vs).heap.size = w.heap.size
  | [], _, _ => rfl
  | v :: r, o, w => by rw [World.setCells, setCells_size b r]; simp [World.setCell]

theorem setCells_os (b : Nat) : ∀ (vs : List Value) (o : Nat) (w : World), (w.setCells b o vs).os = w.os ∧ (w.setCells b o vs).tape = w.tape ∧ (w.setCells b o vs).output = w.output
  | [], _, _ => ⟨rfl, rfl, rfl⟩
  | v :: r, o, w => by rw [World.setCells]; exact setCells_os b r _ _

theorem setCells_block (b ty : Nat) (fr : Nat × Nat) : ∀ (vs : List Value) (o : Nat) (w : World) (arr : Array Value), w.heap[b]? = some (.cells arr ty fr) →
    ∃ arr', (w.setCells b o vs).heap[b]? = some (.cells arr' ty fr) ∧ arr'.size = arr.size ∧ ∀ i, i < arr.size → arr'[i]? = if o ≤ i ∧ i < o + vs.length then vs[i - o]? else arr[i]?
  | [], o, w, arr, h => ⟨arr, h, rfl, fun i _ => by rw [if_neg (by simp only [List.length_nil]; omega)]⟩
  | v :: r, o, w, arr, h => by
    have h1 : (w.setCell ⟨b, o, none⟩ v).heap[b]? = some (.cells (arr.setIfInBounds o v) ty fr) := by
      simp only [World.setCell, Array.getElem?_modify]
      simp [h]
    obtain ⟨arr', e1, e2, e3⟩ := setCells_block b ty fr r (o + 1) _ _ h1
    refine ⟨arr', by rw [World.setCells]; exact e1, by simpa using e2, fun i hi => ?_⟩
    rw [e3 i (by simpa using hi)]
    by_cases c1 : o + 1 ≤ i ∧ i < o + 1 + r.length
    · rw [if_pos c1, if_pos (by simp; omega)]
      rw [show i - o = (i - (o + 1)) + 1 from by omega]; simp
    · rw [if_neg c1]
      by_cases c2 : i = o
      · subst c2
        rw [if_pos (by simp)]
        simp [hi]
      · rw [if_neg (by simp; omega)]
        rw [Array.getElem?_setIfInBounds, if_neg (fun e => c2 e.symm)]
end setCells

/-- The values of a stretch of cells. -/
theorem list_of_holds {C : Ctx} {b : Nat} : ∀ (l : List AVal) (o : Nat), (∀ (j : Nat) (x : AVal), l[j]? = some x → holds C b (o + j) x) →
    l.all one = true ∧ ∃ vs : List Value, vrels C l vs ∧ vs.length = l.length ∧ ∀ (j : Nat) (v : Value), vs[j]? = some v → cellH C.H b (o + j) = some v
  | [], o, _ => ⟨rfl, [], by simp [vrels], rfl, fun j v h => by simp at h⟩
  | x :: xs, o, h => by
    obtain ⟨a1, vs, a2, a3, a4⟩ := list_of_holds xs (o + 1) (fun j y hy => by
      have := h (j + 1) y (by simpa using hy)
      rwa [show o + (j + 1) = o + 1 + j from by omega] at this)
    obtain ⟨h1, v, h2, h3⟩ := h 0 x (by simp)
    refine ⟨by simp [h1, a1], v :: vs, by simp only [vrels]; exact ⟨h3, a2⟩, by simp [a3], fun j u hu => ?_⟩
    cases j with
    | zero => simp at hu; subst hu; simpa using h2
    | succ j =>
      rw [show o + (j + 1) = o + 1 + j from by omega]
      exact a4 j u (by simpa using hu)

theorem getAt_some {cs : List AVal} {off n : Nat} {l : List AVal} (h : getAt cs off n = some l) : off + n ≤ cs.length ∧ l = (cs.drop off).take n ∧ l.length = n ∧ ∀ (j : Nat) (x : AVal), l[j]? = some x → cs[off + j]? = some x := by
  unfold getAt at h
  cases hb : Nat.ble (off + n) cs.length with
  | false => simp [hb] at h
  | true =>
    have hle := Nat.le_of_ble_eq_true hb
    simp only [hb, cond_true, Option.some.injEq] at h
    subst h
    refine ⟨hle, rfl, by simp; omega, fun j x hx => ?_⟩
    rw [List.getElem?_take] at hx
    split at hx
    · simpa using hx
    · simp at hx

theorem ofCells_some {agg : Bool} {cs : List AVal} {x : AVal} (h : ofCells agg cs = some x) : (agg = true ∧ x = .agg cs) ∨ (agg = false ∧ cs = [x]) := by
  cases agg with
  | true => left; simp [ofCells] at h; exact ⟨rfl, h.symm⟩
  | false =>
    right
    simp only [ofCells, cond_false] at h
    split at h
    · simp at h; subst h; exact ⟨rfl, rfl⟩
    · simp at h

theorem run_typeInfo' {P : Program} {t : TypeId} {i : TypeInfo} (h : P.info? t = some i) (w : World) : (typeInfo t).run P w = .ok i w := by
  simp [typeInfo, h]

theorem sizeP_run {P : Program} {t : TypeId} {n : Nat} (h : sizeP P t = some n) (w : World) : (Go.sizeOf t).run P w = .ok n w := by
  unfold sizeP at h
  cases hi : P.info? t with
  | none => simp [hi] at h
  | some i => simp [hi] at h; simp [Go.sizeOf, run_typeInfo' hi, h]

theorem bytesP_run {P : Program} {t : TypeId} {n : Nat} (h : bytesP P t = some n) : ∃ i, P.info? t = some i ∧ i.bytes = n := by
  unfold bytesP at h
  cases hi : P.info? t with
  | none => simp [hi] at h
  | some i => simp [hi] at h; exact ⟨i, rfl, h⟩

theorem aggP_run {P : Program} {t : TypeId} {g : Bool} (h : aggP P t = some g) (w : World) : (isAgg t).run P w = .ok g w := by
  unfold aggP at h
  cases hi : P.underlying t with
  | none => simp [hi] at h
  | some d => simp [hi] at h; cases d <;> simp [isAgg, run_underlying hi] at h ⊢ <;> exact h

/-- A variable is read. -/
theorem loadVar_ok {P : Program} {C : Ctx} {w : World} (hw : w.heap = C.H) {t : TypeId} {agg : Bool} {n : Nat} (hg : aggP P t = some agg) (hn : sizeP P t = some n)
    {b o : Nat} {cs : List AVal} (hc : ∀ (j : Nat) (x : AVal), cs[j]? = some x → holds C b (o + j) x) {off : Nat} {l : List AVal} (hl : getAt cs off n = some l) {x : AVal} (hx : ofCells agg l = some x) :
    ∃ v, (loadVar t ⟨b, o + off, none⟩).run P w = .ok v w ∧ vrel C x v := by
  obtain ⟨h1, _, h3, h4⟩ := getAt_some hl
  obtain ⟨ho, vs, r1, r2, r3⟩ := list_of_holds (C := C) (b := b) l (o + off) (fun j y hy => by
    have := hc _ y (h4 j y hy); rwa [show o + (off + j) = o + off + j from by omega] at this)
  rcases ofCells_some hx with ⟨rfl, rfl⟩ | ⟨rfl, rfl⟩
  · refine ⟨.agg vs.toArray, ?_, by simp only [vrel]; exact ⟨ho, vs.toArray, rfl, by simpa using r1⟩⟩
    have hr := run_loadCells_list (P := P) w ⟨b, o + off, none⟩ vs (fun j v hv => by rw [add_eq, cell_eq hw]; exact r3 j v hv)
    rw [show vs.length = n from by omega] at hr
    simp [loadVar, aggP_run hg, sizeP_run hn, hr]
  · cases vs with
    | nil => simp [vrels] at r1
    | cons v vs =>
      simp only [vrels] at r1
      refine ⟨v, ?_, r1.1⟩
      have := r3 0 v (by simp)
      simp [loadVar, aggP_run hg, cell_eq hw]
      rw [Nat.add_zero] at this
      rw [this]

theorem one_cell {C : Ctx} {x : AVal} {v : Value} (h : one x = true) (r : vrel C x v) : v.oneCell' = true := by
  cases x <;> simp [one] at h <;> simp only [vrel] at r
  case bool => subst r; rfl
  case int => subst r; rfl
  case str => obtain ⟨b, rfl, _⟩ := r; rfl
  case nilp => subst r; rfl
  case gptr => subst r; rfl
  case ptr => obtain ⟨_, _, a, q, rfl, _⟩ := r; rfl
  case sl => obtain ⟨_, _, _, a, l, c, rfl, _⟩ := r; rfl
  case iptr => obtain ⟨b, o, rfl, _⟩ := r; rfl
  case nils => subst r; rfl
  case imm => obtain ⟨b, o, c, sp, rfl, _⟩ := r; rfl
  case nilm => subst r; rfl
  case mp => obtain ⟨_, _, rfl⟩ := r; rfl
  case func => obtain ⟨_, _, rfl, _⟩ := r; rfl
  case nilf => subst r; rfl
  case iface => obtain ⟨_, rfl, _⟩ := r; rfl
  case nili => subst r; rfl

/-- The cells of a value. -/
theorem cells_rel {C : Ctx} {x : AVal} {v : Value} (h : oneV x = true) (r : vrel C x v) : x.cells.all one = true ∧ vrels C x.cells v.cells.toList := by
  by_cases ha : ∃ cs, x = .agg cs
  · obtain ⟨cs, rfl⟩ := ha
    simp only [vrel] at r
    obtain ⟨r0, a, rfl, r1⟩ := r
    exact ⟨r0, by simpa [AVal.cells, Value.cells] using r1⟩
  · have h1 : one x = true := by cases x <;> simp_all [one, oneV]
    have hx : x.cells = [x] := by cases x <;> simp_all [AVal.cells]
    have hv : v.cells = #[v] := by
      have := one_cell h1 r
      cases v <;> simp_all [Value.oneCell', Value.cells]
    rw [hx, hv]
    exact ⟨by simp [h1], by simp only [vrels]; exact ⟨r, trivial⟩⟩
end Wab
/- Each operation: what the abstract one says holds of the model's. First part: operands, and the operations that write nothing. -/
namespace Wab
open Go

mutual
theorem trVal_rel (C : Ctx) : ∀ (n : Nat) (v : Value) (x : AVal), trVal n v = some x → vrel C x v
  | 0, _, _, h => by simp [trVal] at h
  | n + 1, v, x, h => by
    unfold trVal at h
    split at h
    · injection h with h; subst h; simp [vrel]
    · injection h with h; subst h; simp [vrel]
    · injection h with h; subst h; simp only [vrel]; exact ⟨_, rfl, rfl⟩
    · injection h with h; subst h; simp [vrel]
    · injection h with h; subst h; simp [vrel]
    · injection h with h; subst h; simp [vrel]
    · injection h with h; subst h; simp [vrel]
    · injection h with h; subst h; simp [vrel]
    · rename_i t y
      cases hy : trVal n y with
      | none => simp [hy] at h
      | some z => simp [hy] at h; subst h; simp only [vrel]; exact ⟨y, rfl, trVal_rel C n y z hy⟩
    · rename_i cs
      cases hy : trVals n cs.toList with
      | none => simp [hy] at h
      | some l =>
        simp only [hy] at h
        cases ho : l.all one with
        | false => simp [ho] at h
        | true =>
          simp only [ho, cond_true] at h
          injection h with h; subst h; simp only [vrel]
          exact ⟨ho, cs, rfl, trVals_rel C n cs.toList l hy⟩
    · rename_i cs
      cases hy : trVals n cs.toList with
      | none => simp [hy] at h
      | some l => simp [hy] at h; subst h; simp only [vrel]; exact ⟨cs, rfl, trVals_rel C n cs.toList l hy⟩
    · cases h
theorem trVals_rel (C : Ctx) : ∀ (n : Nat) (vs : List Value) (xs : List AVal), trVals n vs = some xs → vrels C xs vs
  | 0, _, _, h => by simp [trVals] at h
  | _ + 1, [], xs, h => by simp [trVals] at h; subst h; simp [vrels]
  | n + 1, v :: vs, xs, h => by
    unfold trVals at h
    cases h1 : trVal n v with
    | none => simp [h1] at h
    | some a =>
      cases h2 : trVals n vs with
      | none => simp [h1, h2] at h
      | some b =>
        simp [h1, h2] at h; subst h
        simp only [vrels]
        exact ⟨trVal_rel C n v a h1, trVals_rel C n vs b h2⟩
end

section
variable {P : Program} {n nt : Nat} {C : Ctx} {Lm : Nat → Option Nat} {s : St} {a : Act} {w : World}

/-- Operands. -/
theorem eval_trel (i : Inv n nt C Lm s a w) {x : Operand} {y : AOpd} (h : trOpd x = some y) : ∃ t, trel C Lm s.l t (evalO s.t y) (a.eval x) := by
  cases x with
  | tmp t => simp [trOpd] at h; subst h; exact ⟨t, i.tm t⟩
  | const v =>
    simp only [trOpd, Option.map_eq_some_iff] at h
    obtain ⟨z, hz, rfl⟩ := h
    exact ⟨0, trel_of_vrel (trVal_rel C _ v z hz)⟩
  | global g => simp [trOpd] at h; subst h; exact ⟨0, trel_of_vrel (by simp [evalO, vrel, Act.eval])⟩
  | func f => simp [trOpd] at h; subst h; exact ⟨0, trel_of_vrel (by simp only [evalO, vrel, Act.eval]; exact ⟨#[], #[], rfl, by simp [vrels], by simp [vrels]⟩)⟩

theorem eval_rel (i : Inv n nt C Lm s a w) {x : Operand} {y : AOpd} (h : trOpd x = some y) {z : AVal} (hz : evalO s.t y = z) (hn : ∀ d off, z ≠ .loc d off) : vrel C z (a.eval x) := by
  obtain ⟨t, r⟩ := eval_trel i h
  rw [hz] at r
  exact r.2 hn

theorem nlO_rel (i : Inv n nt C Lm s a w) {x : Operand} {y : AOpd} (h : trOpd x = some y) {z : AVal} (hz : nlO s.t y = some z) : evalO s.t y = z ∧ vrel C z (a.eval x) := by
  obtain ⟨e, hn⟩ := nl_some hz
  exact ⟨e.symm, eval_rel i h e.symm (by rw [e]; exact hn)⟩

theorem nlAll_rel (i : Inv n nt C Lm s a w) : ∀ {xs : List Operand} {ys : List AOpd} {zs : List AVal}, trOpds xs = some ys → nlAll s.t ys = some zs → vrels C zs (xs.map a.eval)
  | [], ys, zs, h, hz => by simp [trOpds] at h; subst h; simp [nlAll] at hz; subst hz; simp [vrels]
  | x :: xs, ys, zs, h, hz => by
    unfold trOpds at h
    cases h1 : trOpd x with
    | none => simp [h1] at h
    | some y =>
      cases h2 : trOpds xs with
      | none => simp [h1, h2] at h
      | some ys' =>
        simp [h1, h2] at h; subst h
        unfold nlAll at hz
        cases h3 : nlO s.t y with
        | none => simp [h3] at hz
        | some z =>
          cases h4 : nlAll s.t ys' with
          | none => simp [h3, h4] at hz
          | some zs' =>
            simp [h3, h4] at hz; subst hz
            simp only [List.map_cons, vrels]
            exact ⟨(nlO_rel i h1 h3).2, nlAll_rel i h2 h4⟩

/-- What is to be shown of an operation. -/
def OpOk (P : Program) (n nt : Nat) (o : Oper) (C : Ctx) (a : Act) (w : World) (s' : St) (x : AVal) : Prop :=
  ∀ (K : Act → World → Prop) (Q : Exit → Act → World → Prop),
    (∀ a1 v w' C' Lm', Inv n nt C' Lm' s' a1 w' → (∀ d, o.dst = some d → trel C' Lm' s'.l d x v) → Stp n C w C' w' → K (a1.put o.dst v) w') → o.wp P a w K Q

theorem OpOk.value {o : Oper} {s' : St} {x : AVal} {v : Value} {w' : World} (hr : (execOp a.eval o).run P w = .ok (.value v) w') {C' : Ctx} {Lm' : Nat → Option Nat}
    (hi : Inv n nt C' Lm' s' a w') (ht : ∀ d, o.dst = some d → trel C' Lm' s'.l d x v) (hs : Stp n C w C' w') : OpOk P n nt o C a w s' x := by
  intro K Q h
  show o.upon P a K Q _
  rw [hr]
  exact h a v w' C' Lm' hi ht hs

theorem OpOk.skip {o : Oper} {s' : St} {w' : World} (hr : (execOp a.eval o).run P w = .ok .skip w') {C' : Ctx} {Lm' : Nat → Option Nat}
    (hi : Inv n nt C' Lm' s' a w') (hs : Stp n C w C' w') : OpOk P n nt o C a w s' noRes := by
  intro K Q h
  show o.upon P a K Q _
  rw [hr]
  exact h a undef w' C' Lm' hi (fun d _ => trel_of_vrel (vrel_noRes C')) hs

/-- An operation that only computes. -/
theorem OpOk.pure (i : Inv n nt C Lm s a w) {o : Oper} {x : AVal} {v : Value} (hr : (execOp a.eval o).run P w = .ok (.value v) w) (hv : vrel C x v) : OpOk P n nt o C a w s x :=
  OpOk.value hr i (fun _ _ => trel_of_vrel hv) (Stp.refl _ _ _)

theorem ok_mv (i : Inv n nt C Lm s a w) {o : Oper} {x : Operand} (ho : o.op = .move x ∨ o.op = .assign x) {y : AOpd} (hx : trOpd x = some y) {z : AVal} (hz : nlO s.t y = some z) : OpOk P n nt o C a w s z := by
  refine OpOk.pure i (v := a.eval x) ?_ (nlO_rel i hx hz).2
  rcases ho with ho | ho <;> simp [execOp, ho]

theorem ok_pick (i : Inv n nt C Lm s a w) {o : Oper} {c x y : Operand} (ho : o.op = .pick c x y) {c' x' y' : AOpd} (hc : trOpd c = some c') (hx : trOpd x = some x') (hy : trOpd y = some y')
    {b : Bool} (hb : evalO s.t c' = .bool b) {z : AVal} (hz : nlO s.t (cond b x' y') = some z) : OpOk P n nt o C a w s z := by
  have hcv : a.eval c = .bool b := by simpa [vrel] using eval_rel i hc hb (by intros; simp)
  cases b with
  | true => exact OpOk.pure i (v := a.eval x) (by simp [execOp, ho, hcv, asBool]) (nlO_rel i hx hz).2
  | false => exact OpOk.pure i (v := a.eval y) (by simp [execOp, ho, hcv, asBool]) (nlO_rel i hy hz).2

theorem ok_convInt (i : Inv n nt C Lm s a w) {o : Oper} {src dst : TypeId} {x : Operand} (ho : o.op = .convert src dst x) {k0 k : IntKind} (h1 : P.underlying src = some (.int k0)) (h2 : P.underlying dst = some (.int k))
    {y : AOpd} (hx : trOpd x = some y) {j : IntKind} {m : Int} (hm : evalO s.t y = .int j m) : OpOk P n nt o C a w s (.int k (wrapI k m)) := by
  have hv : a.eval x = .int j m := by simpa [vrel] using eval_rel i hx hm (by intros; simp)
  exact OpOk.pure i (v := .int k (k.wrap m)) (by simp [execOp, ho, hv, convert, run_underlying h1, run_underlying h2, Conv.intToInt]) (by simp [vrel, wrapI])

theorem ok_mkIface (i : Inv n nt C Lm s a w) {o : Oper} {t : TypeId} {x : Operand} (ho : o.op = .makeInterface t x) {d : TypeDesc} (h1 : P.underlying t = some d) (hd : ∀ ms, d ≠ .interface ms)
    {y : AOpd} (hx : trOpd x = some y) {z : AVal} (hz : nlO s.t y = some z) : OpOk P n nt o C a w s (.iface t z) := by
  refine OpOk.pure i (v := .iface t (a.eval x)) ?_ (by simp only [vrel]; exact ⟨_, rfl, (nlO_rel i hx hz).2⟩)
  cases d <;> first
    | exact absurd rfl (hd _)
    | simp [execOp, ho, Instr.makeInterface, run_underlying h1]

theorem ok_mkFunc (i : Inv n nt C Lm s a w) {o : Oper} {fn : Fn} {fi ca : Array Operand} (ho : o.op = .makeFunc fn fi ca) {fi' ca' : List AOpd} (h1 : trOpds fi.toList = some fi') (h2 : trOpds ca.toList = some ca')
    {fz cz : List AVal} (h3 : nlAll s.t fi' = some fz) (h4 : nlAll s.t ca' = some cz) : OpOk P n nt o C a w s (.func fn fz cz) := by
  refine OpOk.pure i (v := .func fn (fi.map a.eval) (ca.map a.eval)) (by simp [execOp, ho, Instr.makeFunc]) ?_
  simp only [vrel]
  exact ⟨_, _, rfl, by simpa using nlAll_rel i h1 h3, by simpa using nlAll_rel i h2 h4⟩

theorem ok_extract (i : Inv n nt C Lm s a w) {o : Oper} {x : Operand} {k : Nat} (ho : o.op = .extract x k) {y : AOpd} (hx : trOpd x = some y) {vs : List AVal} (hv : evalO s.t y = .tup vs) {z : AVal} (hz : vs[k]? = some z) :
    OpOk P n nt o C a w s z := by
  have r := eval_rel i hx hv (by intros; simp)
  simp only [vrel] at r
  obtain ⟨arr, e, r⟩ := r
  obtain ⟨u, hu, ru⟩ := vrels_get r k z hz
  refine OpOk.pure i (v := u) ?_ ru
  have hu' : arr[k]? = some u := by simpa using hu
  simp [execOp, ho, e, Instr.extract, hu']

theorem run_v {x : Sem Value} {r : Value} {w' : World} (h : x.run P w = .ok r w') : (do pure (Next.value (← x)) : Sem Next).run P w = .ok (.value r) w' := by simp [h]
theorem run_u {x : Sem Unit} {w' : World} (h : x.run P w = .ok () w') : (do x; pure Next.skip : Sem Next).run P w = .ok .skip w' := by simp [h]

theorem ok_un (i : Inv n nt C Lm s a w) {o : Oper} {op : UnOp} {t : TypeId} {x : Operand} (ho : o.op = .unOp op t x) {y : AOpd} (hx : trOpd x = some y) {z : AVal} (hz : unA op (evalO s.t y) = some z) : OpOk P n nt o C a w s z := by
  generalize hy : evalO s.t y = u at hz
  cases op <;> cases u <;> simp [unA] at hz
  all_goals have r := eval_rel i hx hy (by intros; simp)
  all_goals simp only [vrel] at r
  · rename_i k m
    subst hz
    exact OpOk.pure i (v := .int k (k.wrap (0 - m))) (by simp only [execOp, ho, r]; exact run_v rfl) (by simp [vrel, wrapI])
  · rename_i k m
    simp only [intBin, Option.some.injEq] at hz
    subst hz
    exact OpOk.pure i (v := .int k (k.wrap (BitVec.ofInt k.bits (if k.signed then -1 else k.max) ^^^ BitVec.ofInt k.bits m).toNat)) (by simp only [execOp, ho, r]; exact run_v rfl) (by simp [vrel, wrapI])
  · rename_i b
    subst hz
    exact OpOk.pure i (v := .bool (!b)) (by simp only [execOp, ho, r]; exact run_v rfl) (by simp [vrel])

/-- Strings. -/
theorem bytes_inj {b c : ByteArray} (h : b.data.toList.map (·.toNat) = c.data.toList.map (·.toNat)) : b = c := by
  have inj : Function.Injective (fun x : UInt8 => x.toNat) := fun x y e => UInt8.toNat_inj.1 e
  have := (List.map_inj_right inj).1 h
  cases b; cases c
  simp only [ByteArray.mk.injEq]
  exact Array.ext' this

end
end Wab
/- Equality, and the binary operators. -/
namespace Wab
open Go

section
variable {P : Program} {n nt : Nat} {C : Ctx} {Lm : Nat → Option Nat} {s : St} {a : Act} {w : World}

theorem all_take {cs : List AVal} (h : cs.all one = true) (k : Nat) : (cs.take k).all one = true := by
  rw [List.all_eq_true] at h ⊢; exact fun x hx => h x (List.mem_of_mem_take hx)
theorem all_drop {cs : List AVal} (h : cs.all one = true) (k : Nat) : (cs.drop k).all one = true := by
  rw [List.all_eq_true] at h ⊢; exact fun x hx => h x (List.mem_of_mem_drop hx)

theorem part_ok {t : TypeId} {ag : Bool} {n : Nat} (hg : aggP P t = some ag) (hn : sizeP P t = some n) {cs : List AVal} {arr : Array Value} (r : vrels C cs arr.toList) (h1 : cs.all one = true)
    {off : Nat} {x : AVal} (h : partA ag cs off n = some x) (w : World) : ∃ v, (part t arr off).run P w = .ok v w ∧ vrel C x v := by
  unfold partA at h
  cases hl : getAt cs off n with
  | none => simp [hl] at h
  | some l =>
    rw [hl, Option.bind_some] at h
    obtain ⟨g1, g2, g3, g4⟩ := getAt_some hl
    have rl : vrels C l ((arr.toList.drop off).take n) := by rw [g2]; exact vrels_take n (vrels_drop off r)
    rcases ofCells_some h with ⟨rfl, rfl⟩ | ⟨rfl, rfl⟩
    · refine ⟨.agg (arr.extract off (off + n)), by simp [part, aggP_run hg, sizeP_run hn], ?_⟩
      simp only [vrel]
      refine ⟨by rw [g2]; exact all_take (all_drop h1 _) _, _, rfl, ?_⟩
      rw [Array.toList_extract, List.extract_eq_take_drop, Nat.add_sub_cancel_left]
      exact rl
    · obtain ⟨v, hv, rv⟩ := vrels_get r off x (by simpa using g4 0 x (by simp))
      refine ⟨v, ?_, rv⟩
      have hv' : arr[off]? = some v := by simpa using hv
      simp [part, aggP_run hg, hv']

theorem vrel_agg {cs : List AVal} {v : Value} (r : vrel C (.agg cs) v) : cs.all one = true ∧ ∃ arr, v = .agg arr ∧ vrels C cs arr.toList := by
  simpa only [vrel] using r

theorem eqFields_ok {g : TypeId → Option FT} {gA : FT → AVal → AVal → Option Bool} {d : Nat}
    (ih : ∀ t ft x y v u b, g t = some ft → gA ft x y = some b → vrel C x v → vrel C y u → (Op.equalIn d t v u).run P w = .ok b w)
    {xs ys : List AVal} {ax ay : Array Value} (rx : vrels C xs ax.toList) (ry : vrels C ys ay.toList) (ox : xs.all one = true) (oy : ys.all one = true) :
    ∀ (fs' : List Field) (fs : List (Nat × Nat × Bool × FT)) (b : Bool), flatFs P g fs' = some fs → eqFs gA xs ys fs = some b → (Op.eqFields d ax ay fs').run P w = .ok b w
  | [], fs, b, h1, h2 => by
    simp [flatFs] at h1; subst h1
    simp [eqFs] at h2; subst h2
    simp [Op.eqFields]
  | f :: fs', fs, b, h1, h2 => by
    unfold flatFs at h1
    cases e1 : sizeP P f.type with
    | none => simp [e1] at h1
    | some m =>
    cases e2 : aggP P f.type with
    | none => simp [e1, e2] at h1
    | some ag =>
    cases e3 : g f.type with
    | none => simp [e1, e2, e3] at h1
    | some ft =>
    cases e4 : flatFs P g fs' with
    | none => simp [e1, e2, e3, e4] at h1
    | some r =>
    simp only [e1, e2, e3, e4] at h1
    cases e5 : f.name != "_" with
    | false => simp [e5] at h1
    | true =>
    simp only [e5, cond_true, Option.some.injEq] at h1
    subst h1
    unfold eqFs at h2
    cases p1 : partA ag xs f.offset m with
    | none => simp [p1] at h2
    | some x =>
    cases p2 : partA ag ys f.offset m with
    | none => simp [p1, p2] at h2
    | some y =>
    simp only [p1, p2] at h2
    obtain ⟨v, hv, rv⟩ := part_ok e2 e1 rx ox p1 w
    obtain ⟨u, hu, ru⟩ := part_ok e2 e1 ry oy p2 w
    have hname : f.name ≠ "_" := by simpa using e5
    cases p3 : gA ft x y with
    | none => simp [p3] at h2
    | some c =>
    have hc := ih f.type ft x y v u c e3 p3 rv ru
    cases c with
    | true =>
      rw [p3] at h2
      have := eqFields_ok ih rx ry ox oy fs' r b e4 h2
      simp [Op.eqFields, hname, hv, hu, hc, this]
    | false =>
      rw [p3] at h2
      injection h2 with h2
      subst h2
      simp [Op.eqFields, hname, hv, hu, hc]

/-- The elements of two arrays, one by one. -/
def eqElems (d : Nat) (e : TypeId) (n : Nat) (xs ys : Array Value) : Nat → Nat → Sem Bool
  | 0, _ => Pure.pure true
  | k + 1, i => do
    let x ← part e xs (i * n)
    let y ← part e ys (i * n)
    let r ← Op.equalIn d e x y
    if (!r) = true then Pure.pure false else eqElems d e n xs ys k (i + 1)

theorem run_equalIn_array (d : Nat) (t : TypeId) (xs ys : Array Value) {len : Nat} {e : TypeId} (ht : P.underlying t = some (.array len e)) {n : Nat} (hn : sizeP P e = some n) (w : World) :
    (Op.equalIn (d + 1) t (.agg xs) (.agg ys)).run P w = (eqElems d e n xs ys len 0).run P w := by
  simp only [Op.equalIn, Sem.run_bind, run_underlying ht, Result.andThen_ok, sizeP_run hn]
  rw [Std.Legacy.Range.forIn_eq_forIn_range']
  simp only [Std.Legacy.Range.size, Nat.sub_zero, Nat.add_sub_cancel, Nat.div_one]
  generalize (0 : Nat) = i
  clear ht
  induction len generalizing i w with
  | zero => simp [eqElems]
  | succ k ih =>
    simp only [List.range'_succ, List.forIn_cons, eqElems, Sem.run_bind]
    generalize (part e xs (i * n)).run P w = r1
    cases r1 with
    | ok a w1 =>
      simp only [Result.andThen_ok]
      generalize (part e ys (i * n)).run P w1 = r2
      cases r2 with
      | ok b w2 =>
        simp only [Result.andThen_ok]
        generalize (Op.equalIn d e a b).run P w2 = r3
        cases r3 with
        | ok r w3 =>
          cases r
          · simp only [Result.andThen_ok, Bool.not_false, if_true, Sem.run_pure]
          · simp only [Result.andThen_ok, Bool.not_true, Bool.false_eq_true, if_false, Sem.run_pure]
            exact ih _ _
        | halt x w3 => simp [Result.andThen]
      | halt x w2 => simp [Result.andThen]
    | halt x w1 => simp [Result.andThen]

theorem eqAr_ok {e : TypeId} {ft : FT} {gA : AVal → AVal → Option Bool} {d : Nat}
    (ih : ∀ x y v u b, gA x y = some b → vrel C x v → vrel C y u → (Op.equalIn d e v u).run P w = .ok b w) {m : Nat} {ag : Bool} (e1 : sizeP P e = some m) (e2 : aggP P e = some ag)
    {xs ys : List AVal} {ax ay : Array Value} (rx : vrels C xs ax.toList) (ry : vrels C ys ay.toList) (ox : xs.all one = true) (oy : ys.all one = true) :
    ∀ (k i : Nat) (b : Bool), eqAr gA m ag xs ys k i = some b → (eqElems d e m ax ay k i).run P w = .ok b w
  | 0, i, b, h => by simp [eqAr] at h; subst h; simp [eqElems]
  | k + 1, i, b, h2 => by
    unfold eqAr at h2
    cases p1 : partA ag xs (i * m) m with
    | none => simp [p1] at h2
    | some x =>
    cases p2 : partA ag ys (i * m) m with
    | none => simp [p1, p2] at h2
    | some y =>
    simp only [p1, p2] at h2
    obtain ⟨v, hv, rv⟩ := part_ok e2 e1 rx ox p1 w
    obtain ⟨u, hu, ru⟩ := part_ok e2 e1 ry oy p2 w
    cases p3 : gA x y with
    | none => simp [p3] at h2
    | some c =>
    have hc := ih x y v u c p3 rv ru
    cases c with
    | true =>
      rw [p3] at h2
      have := eqAr_ok (ft := ft) ih e1 e2 rx ry ox oy k (i + 1) b h2
      simp [eqElems, hv, hu, hc, this]
    | false =>
      rw [p3] at h2
      injection h2 with h2
      subst h2
      simp [eqElems, hv, hu, hc]

theorem str_beq {a b : List Nat} {v u : ByteArray} (h1 : v.data.toList.map (·.toNat) = a) (h2 : u.data.toList.map (·.toNat) = b) : (a == b) = (v == u) := by
  rw [Bool.eq_iff_iff]
  constructor
  · intro h
    have h := eq_of_beq h
    subst h1; subst h2
    rw [bytes_inj h, beq_toListBytes]
    exact beq_self_eq_true _
  · intro h
    have : v = u := by
      have h := h
      rw [beq_toListBytes] at h
      have := eq_of_beq h
      rw [ByteArray.toList_eq, ByteArray.toList_eq] at this
      cases v; cases u
      simp only [ByteArray.mk.injEq]
      exact Array.ext' this
    subst this
    rw [← h1, ← h2]; simp

theorem eqT_ok : ∀ (k : Nat) (ft : FT) (t : TypeId) (m : Nat) (x y : AVal) (v u : Value) (b : Bool) (d : Nat), flatT P m t = some ft → eqT k ft x y = some b → vrel C x v → vrel C y u → k ≤ d →
    (Op.equalIn d t v u).run P w = .ok b w
  | 0, _, _, _, _, _, _, _, _, _, _, h, _, _, _ => by simp [eqT] at h
  | k + 1, ft, t, m, x, y, v, u, b, 0, h0, h, r1, r2, hd => by omega
  | k + 1, ft, t, 0, x, y, v, u, b, d + 1, h0, h, r1, r2, hd => by simp [flatT] at h0
  | k + 1, ft, t, m + 1, x, y, v, u, b, d + 1, h0, h, r1, r2, hd => by
    unfold flatT at h0
    cases hu : P.underlying t with
    | none => simp [hu] at h0
    | some td =>
    rw [hu] at h0
    cases td <;> simp only at h0 <;> try (cases h0; done)
    case bool =>
      injection h0 with h0; subst h0
      unfold eqT at h
      cases x <;> cases y <;> simp at h
      simp only [vrel] at r1 r2
      subst r1; subst r2; subst h
      simp [Op.equalIn, run_underlying hu]
    case int k0 =>
      injection h0 with h0; subst h0
      unfold eqT at h
      cases x <;> cases y <;> simp at h
      rename_i j a l c
      simp only [vrel] at r1 r2
      subst r1; subst r2
      by_cases hj : j = l
      · subst hj
        simp at h; subst h
        simp [Op.equalIn, run_underlying hu]
        rfl
      · simp [hj] at h
    case string =>
      injection h0 with h0; subst h0
      unfold eqT at h
      cases x <;> cases y <;> simp at h
      simp only [vrel] at r1 r2
      obtain ⟨p, rfl, hp⟩ := r1
      obtain ⟨q, rfl, hq⟩ := r2
      subst h
      simp [Op.equalIn, run_underlying hu]
      exact (str_beq hp hq).symm
    case struct fs =>
      cases hs : P.stoodInHeld t with
      | true => simp [hs] at h0
      | false =>
      simp only [hs, cond_false, Option.map_eq_some_iff] at h0
      obtain ⟨fl, h1, rfl⟩ := h0
      unfold eqT at h
      cases x <;> cases y <;> simp at h
      rename_i xs ys
      obtain ⟨ox, ax, rfl, rx⟩ := vrel_agg r1
      obtain ⟨oy, ay, rfl, ry⟩ := vrel_agg r2
      have hf : P.fieldsOf t = fs := by unfold Program.fieldsOf; rw [hu]
      rw [run_equalIn_struct w d t ax ay (by rw [hf]; exact hu) hs, hf]
      exact eqFields_ok (fun t' ft' x' y' v' u' b' g1 g2 g3 g4 => eqT_ok k ft' t' m x' y' v' u' b' d g1 g2 g3 g4 (by omega)) rx ry ox oy _ fl b h1 h
    case array len e =>
      cases e1 : sizeP P e with
      | none => simp [e1] at h0
      | some z =>
      cases e2 : aggP P e with
      | none => simp [e1, e2] at h0
      | some ag =>
      cases e3 : flatT P m e with
      | none => simp [e1, e2, e3] at h0
      | some f =>
      simp only [e1, e2, e3, Option.some.injEq] at h0
      subst h0
      unfold eqT at h
      cases x <;> cases y <;> simp at h
      rename_i xs ys
      obtain ⟨ox, ax, rfl, rx⟩ := vrel_agg r1
      obtain ⟨oy, ay, rfl, ry⟩ := vrel_agg r2
      rw [run_equalIn_array d t ax ay hu e1]
      exact eqAr_ok (ft := f) (fun x' y' v' u' b' g2 g3 g4 => eqT_ok k f e m x' y' v' u' b' d e3 g2 g3 g4 (by omega)) e1 e2 rx ry ox oy len 0 b h
termination_by k => k

/-- A type of plain parts asks for no guard. -/
theorem flat_guard : ∀ (k : Nat) (t : TypeId) (ft : FT) (d : Nat), flatT P k t = some ft → k ≤ d → P.eqGuardType d t = false
  | 0, _, _, _, h, _ => by simp [flatT] at h
  | k + 1, t, ft, 0, h, hd => by omega
  | k + 1, t, ft, d + 1, h, hd => by
    unfold flatT at h
    unfold Program.eqGuardType
    cases hu : P.underlying t with
    | none => simp [hu] at h
    | some td =>
    rw [hu] at h
    cases td <;> simp only at h ⊢ <;> try (cases h; done)
    case struct fs =>
      cases hs : P.stoodInHeld t with
      | true => simp [hs] at h
      | false =>
      simp only [hs, cond_false, Option.map_eq_some_iff] at h
      obtain ⟨fl, h1, _⟩ := h
      have key : ∀ (l : List Field) (r : List (Nat × Nat × Bool × FT)), flatFs P (flatT P k) l = some r → ∀ f ∈ l, P.eqGuardType d f.type = false := by
        intro l
        induction l with
        | nil => intro _ _ f hf; cases hf
        | cons f l ih =>
          intro r hr g hg
          unfold flatFs at hr
          cases e3 : flatT P k f.type with
          | none => simp [e3] at hr
          | some ft' =>
          cases e4 : flatFs P (flatT P k) l with
          | none => simp [e3, e4] at hr
          | some r' =>
          rcases List.mem_cons.1 hg with rfl | hg
          · exact flat_guard k _ ft' d e3 (by omega)
          · exact ih r' e4 g hg
      have := key fs.toList fl h1
      rw [Array.any_eq_false']
      intro f hf
      have := this f (by simpa using hf)
      simp [this]
    case array len e =>
      cases e1 : sizeP P e with
      | none => simp [e1] at h
      | some z =>
      cases e2 : aggP P e with
      | none => simp [e1, e2] at h
      | some ag =>
      cases e3 : flatT P k e with
      | none => simp [e1, e2, e3] at h
      | some f => exact flat_guard k e f d e3 (by omega)
termination_by k => k
end
end Wab
/- The binary operators. -/
namespace Wab
open Go

section
variable {P : Program} {n nt : Nat} {C : Ctx} {Lm : Nat → Option Nat} {s : St} {a : Act} {w : World}

theorem cells?_some {h : AHeap} {id ver : Nat} {r : Nat × List AVal × Nat × Bool} (e : h.cells? id ver = some r) : h.m.get id = some (.cells ver r.1 r.2.1 r.2.2.1 r.2.2.2) := by
  unfold AHeap.cells? at e
  split at e
  · rename_i v ty cs fz sx hg
    rw [cond_beq] at e
    split at e
    · rename_i hv
      injection e with e
      subst e; subst hv
      exact hg
    · cases e
  · cases e

theorem live_ver {id ver : Nat} {r : Nat × List AVal × Nat × Bool} (e : C.σ.cells? id ver = some r) : C.ver id = ver ∧ C.known id = r.2.1.length := by
  have := cells?_some e
  simp [Ctx.ver, Ctx.known, this]

theorem nilEq2_some {p q : Option Bool} {b : Bool} (h : nilEq2 p q = some b) : (p = some true ∧ q = some b) ∨ (p = some false ∧ q = some true ∧ b = false) := by
  unfold nilEq2 at h
  split at h
  · injection h with h; subst h; exact .inl ⟨rfl, rfl⟩
  · injection h with h; exact .inr ⟨rfl, rfl, h.symm⟩
  · cases h

theorem nil_ptr {L : Nat → Nat → Bool} (_hL : ∀ i j, L i j = true → ∃ r, C.σ.cells? i j = some r) {x : AVal} {v : Value} (r : vrel C x v) :
    (nilOf L .ptr x = some true → v = .pointer none) ∧ (nilOf L .ptr x = some false → ∃ p, v = .pointer (some p)) := by
  cases x <;> simp [nilOf] <;> simp only [vrel] at r
  case nilp => exact r
  case ptr i u o =>
    obtain ⟨_, _, b, q, rfl, ra⟩ := r
    cases hl : L i u <;> simp
  case gptr => exact ⟨_, r⟩
  case iptr => obtain ⟨_, _, h, _⟩ := r; exact ⟨_, h⟩

theorem nil_slice {L : Nat → Nat → Bool} (_hL : ∀ i j, L i j = true → ∃ r, C.σ.cells? i j = some r) {x : AVal} {v : Value} (r : vrel C x v) :
    (nilOf L .slice x = some true → ∃ l c, v = .slice none l c) ∧ (nilOf L .slice x = some false → ∃ p l c, v = .slice (some p) l c) := by
  cases x <;> simp [nilOf] <;> simp only [vrel] at r
  case nils => exact ⟨_, _, r⟩
  case sl i u o len cap e =>
    obtain ⟨_, _, _, b, q, c, rfl, ra⟩ := r
    cases hl : L i u <;> simp
  case imm => obtain ⟨_, _, _, _, h, _⟩ := r; exact ⟨_, _, _, h⟩

theorem nil_map {L : Nat → Nat → Bool} {x : AVal} {v : Value} (r : vrel C x v) :
    (nilOf L .map x = some true → v = .map none) ∧ (nilOf L .map x = some false → ∃ p, v = .map (some p)) := by
  cases x <;> simp [nilOf] <;> simp only [vrel] at r
  case nilm => exact r
  case mp => exact ⟨_, r.2.2⟩

theorem nil_func {L : Nat → Nat → Bool} {x : AVal} {v : Value} (r : vrel C x v) :
    (nilOf L .func x = some true → v = .nilFunc) ∧ (nilOf L .func x = some false → ∃ f a b, v = .func f a b) := by
  cases x <;> simp [nilOf] <;> simp only [vrel] at r
  case nilf => exact r
  case func => obtain ⟨_, _, h, _⟩ := r; exact ⟨_, _, _, h⟩

theorem nil_iface {L : Nat → Nat → Bool} {x : AVal} {v : Value} (r : vrel C x v) :
    (nilOf L .iface x = some true → v = .nilIface) ∧ (nilOf L .iface x = some false → ∃ t u, v = .iface t u) := by
  cases x <;> simp [nilOf] <;> simp only [vrel] at r
  case nili => exact r
  case iface => obtain ⟨_, h, _⟩ := r; exact ⟨_, _, h⟩

/-- Equality by kinds. -/
theorem equal_ok {t : TypeId} {x y : AVal} {v u : Value} {b : Bool} {L : Nat → Nat → Bool} (hL : ∀ i j, L i j = true → ∃ r, C.σ.cells? i j = some r)
    (h : eqLive L (eqKP P t) x y = some b) (r1 : vrel C x v) (r2 : vrel C y u) : (Op.equal t v u).run P w = .ok b w := by
  unfold Op.equal Op.maxDepth
  obtain ⟨d, hd⟩ : ∃ d, (10000 : Nat) = d + 1 := ⟨9999, rfl⟩
  rw [hd]
  have hd8 : 8 ≤ d + 1 := by omega
  clear hd
  unfold eqKP at h
  cases hu : P.underlying t with
  | none => rw [hu] at h; simp only [eqLive] at h; cases h
  | some td =>
  rw [hu] at h
  have hflat : ∀ ft, flatT P 8 t = some ft → eqLive L (.flat ft) x y = some b → (Op.equalIn (d + 1) t v u).run P w = .ok b w := by
    intro ft h1 h2
    simp only [eqLive] at h2
    unfold flatEq at h2
    split at h2
    · exact eqT_ok 8 ft t 8 _ _ v u b (d + 1) h1 h2 r1 r2 hd8
    · cases h2
  cases td <;> simp only at h
  case bool =>
    simp only [eqLive] at h
    unfold boolEq at h
    split at h
    · simp only [vrel] at r1 r2
      subst r1; subst r2
      injection h with h; subst h
      simp [Op.equalIn, run_underlying hu]
    · cases h
  case struct fs =>
    cases hf : flatT P 8 t with
    | none => rw [hf] at h; simp only [eqLive] at h; cases h
    | some ft => rw [hf] at h; exact hflat ft hf h
  case array len e =>
    cases hf : flatT P 8 t with
    | none => rw [hf] at h; simp only [eqLive] at h; cases h
    | some ft => rw [hf] at h; exact hflat ft hf h
  case interface ms =>
    simp only [eqLive] at h
    obtain ⟨a1, a2⟩ := nil_iface (L := L) r1
    obtain ⟨b1, b2⟩ := nil_iface (L := L) r2
    rcases nilEq2_some h with ⟨e1, e2⟩ | ⟨e1, e2, rfl⟩
    · have := a1 e1; subst this
      cases b with
      | true => have := b1 e2; subst this; simp [Op.equalIn, run_underlying hu]
      | false => obtain ⟨_, _, rfl⟩ := b2 e2; simp [Op.equalIn, run_underlying hu]
    · have := b1 e2; subst this
      obtain ⟨_, _, rfl⟩ := a2 e1; simp [Op.equalIn, run_underlying hu]
  case pointer e =>
    cases e1 : sizeP P e with
    | none => rw [e1] at h; simp only [eqLive] at h; cases h
    | some z =>
    cases z with
    | zero => rw [e1] at h; simp only [eqLive] at h; cases h
    | succ z =>
    rw [e1] at h
    simp only [eqLive] at h
    unfold ptrEq at h
    split at h
    · rename_i i1 u1 o1 i2 u2 o2
      simp only [vrel] at r1 r2
      obtain ⟨_, _, p1, q1, rfl, ra1⟩ := r1
      obtain ⟨_, _, p2, q2, rfl, ra2⟩ := r2
      cases hc : (Nat.beq i1 i2 && Nat.beq u1 u2 && L i1 u1) with
      | false => simp [hc] at h
      | true =>
        simp only [hc, cond_true, Option.some.injEq] at h
        simp only [Bool.and_eq_true] at hc
        obtain ⟨⟨c1, c2⟩, c3⟩ := hc
        have c1 := Nat.eq_of_beq_eq_true c1
        have c2 := Nat.eq_of_beq_eq_true c2
        subst c1; subst c2; subst h
        obtain ⟨r, hr'⟩ := hL _ _ c3
        obtain ⟨e1', f1'⟩ := ra1 (live_ver hr').1.symm
        obtain ⟨e2', f2'⟩ := ra2 (live_ver hr').1.symm
        subst e1'; subst e2'; subst f1'; subst f2'
        simp [Op.equalIn, run_underlying hu, sizeP_run e1, sameAddr]
        rw [Bool.eq_iff_iff]
        simp
    · obtain ⟨a1, a2⟩ := nil_ptr hL r1
      obtain ⟨b1, b2⟩ := nil_ptr hL r2
      rcases nilEq2_some h with ⟨e1, e2⟩ | ⟨e1, e2, rfl⟩
      · have := a1 e1; subst this
        cases b with
        | true => have := b1 e2; subst this; simp [Op.equalIn, run_underlying hu]
        | false => obtain ⟨_, rfl⟩ := b2 e2; simp [Op.equalIn, run_underlying hu]
      · have := b1 e2; subst this
        obtain ⟨_, rfl⟩ := a2 e1; simp [Op.equalIn, run_underlying hu]
  case slice e =>
    simp only [eqLive] at h
    obtain ⟨a1, a2⟩ := nil_slice hL r1
    obtain ⟨b1, b2⟩ := nil_slice hL r2
    rcases nilEq2_some h with ⟨e1, e2⟩ | ⟨e1, e2, rfl⟩
    · obtain ⟨_, _, rfl⟩ := a1 e1
      cases b with
      | true => obtain ⟨_, _, rfl⟩ := b1 e2; simp [Op.equalIn, run_underlying hu]
      | false => obtain ⟨_, _, _, rfl⟩ := b2 e2; simp [Op.equalIn, run_underlying hu]
    · obtain ⟨_, _, rfl⟩ := b1 e2
      obtain ⟨_, _, _, rfl⟩ := a2 e1; simp [Op.equalIn, run_underlying hu]
  case map kt e =>
    simp only [eqLive] at h
    obtain ⟨a1, a2⟩ := nil_map (L := L) r1
    obtain ⟨b1, b2⟩ := nil_map (L := L) r2
    rcases nilEq2_some h with ⟨e1, e2⟩ | ⟨e1, e2, rfl⟩
    · have := a1 e1; subst this
      cases b with
      | true => have := b1 e2; subst this; simp [Op.equalIn, run_underlying hu]
      | false => obtain ⟨_, rfl⟩ := b2 e2; simp [Op.equalIn, run_underlying hu]
    · have := b1 e2; subst this
      obtain ⟨_, rfl⟩ := a2 e1; simp [Op.equalIn, run_underlying hu]
  case func ps rs va =>
    simp only [eqLive] at h
    obtain ⟨a1, a2⟩ := nil_func (L := L) r1
    obtain ⟨b1, b2⟩ := nil_func (L := L) r2
    rcases nilEq2_some h with ⟨e1, e2⟩ | ⟨e1, e2, rfl⟩
    · have := a1 e1; subst this
      cases b with
      | true => have := b1 e2; subst this; simp [Op.equalIn, run_underlying hu]
      | false => obtain ⟨_, _, _, rfl⟩ := b2 e2; simp [Op.equalIn, run_underlying hu]
    · have := b1 e2; subst this
      obtain ⟨_, _, _, rfl⟩ := a2 e1; simp [Op.equalIn, run_underlying hu]
  all_goals (simp only [eqLive] at h; cases h)
end
end Wab
/- The binary operators, whole. -/
namespace Wab
open Go

section
variable {P : Program} {n nt : Nat} {C : Ctx} {Lm : Nat → Option Nat} {s : St} {a : Act} {w : World}

theorem intBin_ok {op : BinOp} {k : IntKind} {x y : Int} {z : AVal} (h : intBin op k x y = some z) (t : TypeId) : ∃ v, (binOp op t (.int k x) (.int k y)).run P w = .ok v w ∧ vrel C z v := by
  cases op <;> simp only [intBin] at h
  case add => injection h with h; subst h; exact ⟨_, by simp only [binOp, ne_eq, not_true_eq_false, if_false]; rfl, by simp only [vrel]; rfl⟩
  case sub => injection h with h; subst h; exact ⟨_, by simp only [binOp, ne_eq, not_true_eq_false, if_false]; rfl, by simp only [vrel]; rfl⟩
  case mul => injection h with h; subst h; exact ⟨_, by simp only [binOp, ne_eq, not_true_eq_false, if_false]; rfl, by simp only [vrel]; rfl⟩
  case quo =>
    by_cases hy : y = 0
    · simp [hy] at h
    · simp [hy] at h; subst h
      exact ⟨.int k (k.wrap (x.tdiv y)), by simp [binOp, Op.intDiv, hy], by simp [vrel, wrapI]⟩
  case rem =>
    by_cases hy : y = 0
    · simp [hy] at h
    · simp [hy] at h; subst h
      exact ⟨.int k (x.tmod y), by simp [binOp, Op.intDiv, hy], by simp [vrel]⟩
  case and => injection h with h; subst h; exact ⟨_, by simp only [binOp, ne_eq, not_true_eq_false, if_false]; rfl, by simp only [vrel]; rfl⟩
  case or => injection h with h; subst h; exact ⟨_, by simp only [binOp, ne_eq, not_true_eq_false, if_false]; rfl, by simp only [vrel]; rfl⟩
  case xor => injection h with h; subst h; exact ⟨_, by simp only [binOp, ne_eq, not_true_eq_false, if_false]; rfl, by simp only [vrel]; rfl⟩
  case andNot => injection h with h; subst h; exact ⟨_, by simp only [binOp, ne_eq, not_true_eq_false, if_false]; rfl, by simp only [vrel]; rfl⟩
  case eql => injection h with h; subst h; exact ⟨_, by simp only [binOp, ne_eq, not_true_eq_false, if_false]; rfl, by simp only [vrel]⟩
  case neq => injection h with h; subst h; exact ⟨_, by simp only [binOp, ne_eq, not_true_eq_false, if_false]; rfl, by simp only [vrel]⟩
  case lss => injection h with h; subst h; exact ⟨_, by simp only [binOp, ne_eq, not_true_eq_false, if_false]; rfl, by simp only [vrel]⟩
  case leq => injection h with h; subst h; exact ⟨_, by simp only [binOp, ne_eq, not_true_eq_false, if_false]; rfl, by simp only [vrel]⟩
  case gtr => injection h with h; subst h; exact ⟨_, by simp only [binOp, ne_eq, not_true_eq_false, if_false]; rfl, by simp only [vrel]⟩
  case geq => injection h with h; subst h; exact ⟨_, by simp only [binOp, ne_eq, not_true_eq_false, if_false]; rfl, by simp only [vrel]⟩
  all_goals cases h

theorem shiftA_ok {op : BinOp} {k j : IntKind} {x y : Int} {z : AVal} (h : shiftA op k x y = some z) (ho : op = .shl ∨ op = .shr) (t : TypeId) : ∃ v, (binOp op t (.int k x) (.int j y)).run P w = .ok v w ∧ vrel C z v := by
  unfold shiftA at h
  by_cases hy : y < 0
  · simp [hy] at h
  · simp only [hy, decide_false, cond_false] at h
    rcases ho with rfl | rfl
    · injection h with h; subst h
      exact ⟨.int k (k.wrap (x * 2 ^ (min y.toNat k.bits))), by simp [binOp, Op.shift, hy], by simp [vrel, wrapI]⟩
    · injection h with h; subst h
      exact ⟨.int k (x.fdiv (2 ^ (min y.toNat k.bits))), by simp [binOp, Op.shift, hy], by simp [vrel]⟩

theorem bytesLt_eq : ∀ (x y : List UInt8), bytesLt (x.map (·.toNat)) (y.map (·.toNat)) = Op.bytesLess x y
  | [], [] => rfl
  | _ :: _, [] => rfl
  | [], _ :: _ => rfl
  | a :: x, b :: y => by
    simp only [List.map_cons, bytesLt, Op.bytesLess, bytesLt_eq x y]
    have h1 : Nat.blt a.toNat b.toNat = decide (a < b) := by
      rw [Bool.eq_iff_iff]; simp [Nat.blt, Nat.ble_eq, UInt8.lt_iff_toNat_lt]; omega
    have h2 : Nat.beq a.toNat b.toNat = (a == b) := by
      rw [Bool.eq_iff_iff]; simp [← UInt8.toNat_inj]
    rw [h1, h2]

theorem strBin_ok {op : BinOp} {x y : List Nat} {p q : ByteArray} (hp : p.data.toList.map (·.toNat) = x) (hq : q.data.toList.map (·.toNat) = y) {z : AVal} (h : strBin op x y = some z) (t : TypeId) :
    ∃ v, (binOp op t (.string p) (.string q)).run P w = .ok v w ∧ vrel C z v := by
  have heq : (x == y) = (p.toList == q.toList) := by rw [← beq_toListBytes]; exact str_beq hp hq
  have hlt : bytesLt x y = Op.bytesLess p.toList q.toList := by rw [ByteArray.toList_eq, ByteArray.toList_eq, ← hp, ← hq]; exact bytesLt_eq _ _
  cases op <;> simp only [strBin] at h
  case add =>
    cases hb : Nat.ble (x.length + y.length) 9223372036854775807 with
    | false => rw [hb] at h; cases h
    | true =>
      simp only [hb, cond_true, Option.some.injEq] at h
      subst h
      have hle := Nat.le_of_ble_eq_true hb
      have hs : p.size + q.size = x.length + y.length := by rw [← hp, ← hq, List.length_map, List.length_map]; rfl
      refine ⟨.string (p ++ q), ?_, ?_⟩
      · simp only [binOp, Op.stringOp]
        rw [if_neg]
        · rfl
        · have : (IntKind.i64.max : Int) = 9223372036854775807 := by decide
          rw [this]; omega
      · simp only [vrel]
        exact ⟨_, rfl, by rw [← hp, ← hq]; simp⟩
  case eql => injection h with h; subst h; rw [heq]; exact ⟨_, rfl, by simp only [vrel]⟩
  case neq => injection h with h; subst h; rw [heq]; exact ⟨_, rfl, by simp only [vrel]⟩
  case lss => injection h with h; subst h; rw [hlt]; exact ⟨_, rfl, by simp only [vrel]⟩
  case leq => injection h with h; subst h; rw [hlt, heq]; exact ⟨_, rfl, by simp only [vrel]⟩
  case gtr => injection h with h; subst h; rw [hlt, heq]; exact ⟨_, rfl, by simp only [vrel]⟩
  case geq => injection h with h; subst h; rw [hlt]; exact ⟨_, rfl, by simp only [vrel]⟩
  all_goals cases h

/-- The guard ahead of '=='. -/
theorem eqGuard_ok {op : BinOp} {t : TypeId} {x y : Operand} {v u : Value}
    (h1 : v = .nilIface → u = .nilIface → (isCst x || isCst y) = true)
    (h2 : ∀ a b, v = .agg a → u = .agg b → P.eqGuardType P.depth t = false) : (eqGuard op t x y v u).run P w = .ok () w := by
  by_cases hi : v = .nilIface ∧ u = .nilIface
  · obtain ⟨rfl, rfl⟩ := hi
    have := h1 rfl rfl
    have hx : (∃ c, x = .const c) ∨ (∃ c, y = .const c) := by
      simp only [Bool.or_eq_true] at this
      rcases this with h | h
      · left; cases x <;> simp [isCst] at h; exact ⟨_, rfl⟩
      · right; cases y <;> simp [isCst] at h; exact ⟨_, rfl⟩
    rcases hx with ⟨c, rfl⟩ | ⟨c, rfl⟩
    · cases op <;> simp [eqGuard]
    · cases op <;> cases x <;> simp [eqGuard]
  · by_cases ha : ∃ p q, v = .agg p ∧ u = .agg q
    · obtain ⟨p, q, rfl, rfl⟩ := ha
      exact run_eqGuard_agg w op t x y p q (h2 p q rfl rfl)
    · cases op <;> cases v <;> cases u <;> first
        | (simp [eqGuard]; done)
        | (exfalso; exact hi ⟨rfl, rfl⟩)
        | (exfalso; exact ha ⟨_, _, rfl, rfl⟩)

theorem vrel_nilIface {x : AVal} (r : vrel C x .nilIface) : x = .nili ∨ x = .dead := by
  cases x <;> simp only [vrel] at r <;> simp_all

theorem vrel_is_agg {x : AVal} {p : Array Value} (r : vrel C x (.agg p)) : (∃ cs, x = .agg cs) ∨ x = .dead := by
  cases x <;> simp only [vrel] at r <;> simp_all

theorem eqLive_nili {L : Nat → Nat → Bool} {k : EqK} {x y : AVal} {b : Bool} (h : eqLive L k x y = some b) (hx : x = .nili ∨ x = .dead) (hy : y = .nili ∨ y = .dead) : k = .iface := by
  cases k <;> rcases hx with rfl | rfl <;> rcases hy with rfl | rfl <;> simp_all [eqLive, boolEq, flatEq, ptrEq, nilOf, nilEq2]

theorem eqLive_agg {L : Nat → Nat → Bool} {k : EqK} {x y : AVal} {b : Bool} (h : eqLive L k x y = some b) (hx : (∃ cs, x = .agg cs) ∨ x = .dead) (hy : (∃ cs, y = .agg cs) ∨ y = .dead) : ∃ ft, k = .flat ft := by
  cases k <;> rcases hx with ⟨_, rfl⟩ | rfl <;> rcases hy with ⟨_, rfl⟩ | rfl <;> simp_all [eqLive, boolEq, flatEq, ptrEq, nilOf, nilEq2]

/-- No pair of numbers or strings. -/
def Odd : Value → Value → Prop
  | .int _ _, .int _ _ | .float _ _, .float _ _ | .complex _ _ _, .complex _ _ _ | .string _, .string _ => False
  | _, _ => True

theorem binOp_eql {t : TypeId} {v u : Value} (h : Odd v u) : binOp .eql t v u = (do pure (.bool (← Op.equal t v u)) : Sem Value) := by
  cases v <;> cases u <;> first | rfl | exact h.elim
theorem binOp_neq {t : TypeId} {v u : Value} (h : Odd v u) : binOp .neq t v u = (do pure (.bool (!(← Op.equal t v u))) : Sem Value) := by
  cases v <;> cases u <;> first | rfl | exact h.elim

theorem eqLive_odd {L : Nat → Nat → Bool} {k : EqK} {x y : AVal} {b : Bool} (h : eqLive L k x y = some b) {v u : Value} (rx : vrel C x v) (ry : vrel C y u) : Odd v u := by
  have hx : x ≠ .dead ∧ (∀ k n, x ≠ .int k n) ∧ (∀ s, x ≠ .str s) := by
    refine ⟨?_, ?_, ?_⟩ <;> intros <;> intro e <;> subst e <;> cases k <;> cases y <;> simp_all [eqLive, boolEq, flatEq, ptrEq, nilOf, nilEq2]
  cases v <;> cases u <;> try trivial
  all_goals (exfalso; cases x <;> simp only [vrel] at rx <;> simp_all)

theorem eqKP_flat {t : TypeId} {ft : FT} (h : eqKP P t = .flat ft) : P.eqGuardType P.depth t = false := by
  have key : flatT P 8 t = some ft := by
    unfold eqKP at h
    split at h <;> first | (cases h; done) | skip
    · split at h
      · rename_i e; injection h with h; subst h; exact e
      · cases h
    · split at h
      · rename_i e; injection h with h; subst h; exact e
      · cases h
    · split at h <;> cases h
  exact flat_guard 8 t ft P.depth key (by unfold Program.depth Made.depth; omega)

/-- What '==' and '!=' need of their kind. -/
def KindOk (P : Program) (op : BinOp) (t : TypeId) (x y : Operand) (k : EqK) : Prop :=
  (op = .eql ∨ op = .neq) → k = eqKP P t ∧ (k = .iface → (isCst x || isCst y) = true)

theorem ok_bin (i : Inv n nt C Lm s a w) {o : Oper} {op : BinOp} {t yt : TypeId} {x y : Operand} (ho : o.op = .binOp op t x y yt) {x' y' : AOpd} (hx : trOpd x = some x') (hy : trOpd y = some y')
    {k : EqK} (hk : KindOk P op t x y k) {xa ya : AVal} (hxa : nlO s.t x' = some xa) (hya : nlO s.t y' = some ya) {z : AVal}
    (hz : binA (fun i u => (s.h.cells? i u).isSome) op k xa ya = some z) : OpOk P n nt o C a w s z := by
  have rx := (nlO_rel i hx hxa).2
  have ry := (nlO_rel i hy hya).2
  have hL : ∀ j u, (fun i u => (s.h.cells? i u).isSome) j u = true → ∃ r, C.σ.cells? j u = some r := by
    intro j u h
    rw [i.σ]
    exact Option.isSome_iff_exists.1 h
  -- it suffices to run the operator and to pass the guard
  have fin : ∀ v, (eqGuard op t x y (a.eval x) (a.eval y)).run P w = .ok () w → (binOp op t (a.eval x) (a.eval y)).run P w = .ok v w → vrel C z v → OpOk P n nt o C a w s z := by
    intro v g h r
    exact OpOk.pure i (v := v) (by simp only [execOp, ho]; exact run_v (by simp [g, h])) r
  have noguard : op ≠ .eql → op ≠ .neq → (eqGuard op t x y (a.eval x) (a.eval y)).run P w = .ok () w := by
    intro h1 h2
    cases op <;> first | (exact absurd rfl h1) | (exact absurd rfl h2) | simp [eqGuard]
  unfold binA at hz
  split at hz
  · simp only [vrel] at rx ry
    obtain ⟨v, h1, h2⟩ := shiftA_ok (P := P) (C := C) (w := w) hz (.inl rfl) t
    exact fin v (noguard (by simp) (by simp)) (by rw [rx, ry]; exact h1) h2
  · simp only [vrel] at rx ry
    obtain ⟨v, h1, h2⟩ := shiftA_ok (P := P) (C := C) (w := w) hz (.inr rfl) t
    exact fin v (noguard (by simp) (by simp)) (by rw [rx, ry]; exact h1) h2
  · rename_i j p l q _ _
    simp only [vrel] at rx ry
    by_cases hj : j = l
    · subst hj
      simp at hz
      obtain ⟨v, h1, h2⟩ := intBin_ok (P := P) (C := C) (w := w) hz t
      exact fin v (eqGuard_ok (by rw [rx]; intro h; cases h) (by rw [rx]; intro _ _ h; cases h)) (by rw [rx, ry]; exact h1) h2
    · simp [hj] at hz
  · simp only [vrel] at rx ry
    obtain ⟨p, hp1, hp2⟩ := rx
    obtain ⟨q, hq1, hq2⟩ := ry
    obtain ⟨v, h1, h2⟩ := strBin_ok (P := P) (C := C) (w := w) hp2 hq2 hz t
    exact fin v (eqGuard_ok (by rw [hp1]; intro h; cases h) (by rw [hp1]; intro _ _ h; cases h)) (by rw [hp1, hq1]; exact h1) h2
  · rename_i hn1 hn2
    simp only [Option.map_eq_some_iff] at hz
    obtain ⟨b, hb, rfl⟩ := hz
    obtain ⟨k1, k2⟩ := hk (.inl rfl)
    have he := equal_ok (P := P) (w := w) hL (by rw [← k1]; exact hb) rx ry
    refine fin (.bool b) (eqGuard_ok (fun h1 h2 => ?_) (fun p q h1 h2 => ?_)) ?_ (by simp [vrel])
    · rw [h1] at rx; rw [h2] at ry
      exact k2 (eqLive_nili hb (vrel_nilIface rx) (vrel_nilIface ry))
    · rw [h1] at rx; rw [h2] at ry
      obtain ⟨ft, hft⟩ := eqLive_agg hb (vrel_is_agg rx) (vrel_is_agg ry)
      exact eqKP_flat (by rw [← k1]; exact hft)
    · rw [binOp_eql (eqLive_odd hb rx ry)]; simp [he]
  · rename_i hn1 hn2
    simp only [Option.map_eq_some_iff] at hz
    obtain ⟨b, hb, rfl⟩ := hz
    obtain ⟨k1, k2⟩ := hk (.inr rfl)
    have he := equal_ok (P := P) (w := w) hL (by rw [← k1]; exact hb) rx ry
    refine fin (.bool (!b)) (eqGuard_ok (fun h1 h2 => ?_) (fun p q h1 h2 => ?_)) ?_ (by simp [vrel])
    · rw [h1] at rx; rw [h2] at ry
      exact k2 (eqLive_nili hb (vrel_nilIface rx) (vrel_nilIface ry))
    · rw [h1] at rx; rw [h2] at ry
      obtain ⟨ft, hft⟩ := eqLive_agg hb (vrel_is_agg rx) (vrel_is_agg ry)
      exact eqKP_flat (by rw [← k1]; exact hft)
    · rw [binOp_neq (eqLive_odd hb rx ry)]; simp [he]
  · cases hz
end
end Wab
