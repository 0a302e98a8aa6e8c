/- Part 6 of this claim: an abstract interpreter over the model, its soundness, and what is run in it. -/
import Derived.Defers
import Derived.Test.YthnhpmbmadmmhaaGreatW04
set_option maxRecDepth 20000
set_option linter.unusedSimpArgs false
set_option linter.unusedVariables false
/- Behind a pure call the abstract heap is as it was: values are read anew. -/
namespace Wab
open Go

mutual
/-- All blocks that a value leans on. -/
def idsIn (p : Nat → Prop) : AVal → Prop
  | .ptr id _ _ => p id
  | .sl id _ _ _ _ _ => p id
  | .mp id => p id
  | .func _ f c => idsAll p f ∧ idsAll p c
  | .iface _ x => idsIn p x
  | .agg cs => idsAll p cs
  | .tup cs => idsAll p cs
  | _ => True
def idsAll (p : Nat → Prop) : List AVal → Prop
  | [] => True
  | x :: xs => idsIn p x ∧ idsAll p xs
end

theorem pureC_ids {p : Nat → Prop} : ∀ x : AVal, pureC x = true → idsIn p x
  | .iface _ x, h => by simp only [pureC] at h; simp only [idsIn]; exact pureC_ids x h
  | .func _ [] [], _ => by simp [idsIn, idsAll]
  | .func _ (_ :: _) _, h => by simp [pureC] at h
  | .func _ [] (_ :: _), h => by simp [pureC] at h
  | .bool _, _ | .int _ _, _ | .str _, _ | .nilp, _ | .gptr _ _, _ | .nils, _ | .imm _ _ _, _ | .nilm, _ | .nilf, _ | .nili, _ | .iptr _ _, _ => by simp [idsIn]
  | .dead, h | .ptr _ _ _, h | .loc _ _, h | .sl _ _ _ _ _ _, h | .mp _, h | .agg _, h | .tup _, h => by simp [pureC] at h

mutual
theorem vrel_ids {C : Ctx} : ∀ (x : AVal) (v : Value), vrel C x v → idsIn C.live x
  | .dead, _, _ | .bool _, _, _ | .int _ _, _, _ | .str _, _, _ | .nilp, _, _ | .gptr _ _, _, _ | .loc _ _, _, _ | .iptr _ _, _, _ | .nils, _, _ | .imm _ _ _, _, _ | .nilm, _, _ | .nilf, _, _ | .nili, _, _ => by simp [idsIn]
  | .ptr _ _ _, _, h => by simp only [vrel] at h; simp only [idsIn]; exact h.1
  | .sl _ _ _ _ _ _, _, h => by simp only [vrel] at h; simp only [idsIn]; exact h.1
  | .mp _, _, h => by simp only [vrel] at h; simp only [idsIn]; exact h.1
  | .func _ f c, _, h => by
    simp only [vrel] at h; simp only [idsIn]
    obtain ⟨f', c', _, h1, h2⟩ := h
    exact ⟨vrels_ids f _ h1, vrels_ids c _ h2⟩
  | .iface _ x, _, h => by
    simp only [vrel] at h; simp only [idsIn]
    obtain ⟨y, _, h1⟩ := h
    exact vrel_ids x y h1
  | .agg cs, _, h => by
    simp only [vrel] at h; simp only [idsIn]
    obtain ⟨_, a, _, h1⟩ := h
    exact vrels_ids cs _ h1
  | .tup cs, _, h => by
    simp only [vrel] at h; simp only [idsIn]
    obtain ⟨a, _, h1⟩ := h
    exact vrels_ids cs _ h1
theorem vrels_ids {C : Ctx} : ∀ (xs : List AVal) (vs : List Value), vrels C xs vs → idsAll C.live xs
  | [], _, _ => by simp [idsAll]
  | _ :: _, [], h => by simp [vrels] at h
  | x :: xs, v :: vs, h => by
    simp only [vrels] at h; simp only [idsAll]
    exact ⟨vrel_ids x v h.1, vrels_ids xs vs h.2⟩
end

/-- One context beside another: the blocks of p are the same. -/
structure Res (p : Nat → Prop) (C' C'' : Ctx) : Prop where
  live : ∀ id, p id → C'.live id → C''.live id
  get : ∀ id, p id → C''.σ.m.get id = C'.σ.m.get id
  mu : ∀ id, p id → C''.mu id = C'.mu id
  H : C''.H = C'.H
  own : ∀ b, C''.Own b → C'.Own b ∨ C'.F b
  F : ∀ b, C''.F b → C'.F b

mutual
theorem vrel_res {p : Nat → Prop} {C' C'' : Ctx} (R : Res p C' C'') : ∀ (x : AVal) (v : Value), idsIn p x → vrel C' x v → vrel C'' x v
  | .dead, _, _, _ => by simp [vrel]
  | .bool _, _, _, r => by simpa [vrel] using r
  | .int _ _, _, _, r => by simpa [vrel] using r
  | .str _, _, _, r => by simpa [vrel] using r
  | .nilp, _, _, r => by simpa [vrel] using r
  | .ptr id ver off, v, hp, r => by
    simp only [idsIn] at hp
    simp only [vrel] at r ⊢
    obtain ⟨h1, h2, b, q, h0, h3⟩ := r
    have hv : C''.ver id = C'.ver id := by simp only [Ctx.ver, R.get id hp]
    rw [hv, R.mu id hp]
    exact ⟨R.live id hp h1, h2, b, q, h0, h3⟩
  | .gptr _ _, _, _, r => by simpa [vrel] using r
  | .loc _ _, _, _, r => by simp [vrel] at r
  | .iptr x off, v, _, r => by
    simp only [vrel] at r ⊢
    obtain ⟨b, o, hv, hc⟩ := r
    exact ⟨b, o, hv, cellsAt_res R x b o hc⟩
  | .nils, _, _, r => by simpa [vrel] using r
  | .imm e xs ex, v, _, r => by
    simp only [vrel] at r ⊢
    obtain ⟨b, o, cap, sp, hv, h0, h1, h2, hc⟩ := r
    exact ⟨b, o, cap, sp, hv, h0, h1, h2, elemsAt_res R xs e b o hc⟩
  | .sl id ver off len cap e, v, hp, r => by
    simp only [idsIn] at hp
    simp only [vrel] at r ⊢
    obtain ⟨h1, h2, h4, b, q, c, h0, h5, h6, h3⟩ := r
    have hv : C''.ver id = C'.ver id := by simp only [Ctx.ver, R.get id hp]
    have hk : C''.known id = C'.known id := by simp only [Ctx.known, R.get id hp]
    have ha : C''.asize id = C'.asize id := by simp only [Ctx.asize, R.mu id hp, R.H]
    rw [hv, hk, ha, R.mu id hp]
    exact ⟨R.live id hp h1, h2, h4, b, q, c, h0, h5, h6, h3⟩
  | .nilm, _, _, r => by simpa [vrel] using r
  | .mp id, v, hp, r => by
    simp only [idsIn] at hp
    simp only [vrel] at r ⊢
    obtain ⟨h1, ⟨es, c, h2⟩, h3⟩ := r
    rw [R.mu id hp]
    exact ⟨R.live id hp h1, ⟨es, c, by rw [R.get id hp]; exact h2⟩, h3⟩
  | .func fn f c, v, hp, r => by
    simp only [idsIn] at hp
    simp only [vrel] at r ⊢
    obtain ⟨f', c', hv, h1, h2⟩ := r
    exact ⟨f', c', hv, vrels_res R f _ hp.1 h1, vrels_res R c _ hp.2 h2⟩
  | .nilf, _, _, r => by simpa [vrel] using r
  | .iface t x, v, hp, r => by
    simp only [idsIn] at hp
    simp only [vrel] at r ⊢
    obtain ⟨y, hv, h1⟩ := r
    exact ⟨y, hv, vrel_res R x y hp h1⟩
  | .nili, _, _, r => by simpa [vrel] using r
  | .agg cs, v, hp, r => by
    simp only [idsIn] at hp
    simp only [vrel] at r ⊢
    obtain ⟨h0, a, hv, h1⟩ := r
    exact ⟨h0, a, hv, vrels_res R cs _ hp h1⟩
  | .tup cs, v, hp, r => by
    simp only [idsIn] at hp
    simp only [vrel] at r ⊢
    obtain ⟨a, hv, h1⟩ := r
    exact ⟨a, hv, vrels_res R cs _ hp h1⟩
theorem vrels_res {p : Nat → Prop} {C' C'' : Ctx} (R : Res p C' C'') : ∀ (xs : List AVal) (vs : List Value), idsAll p xs → vrels C' xs vs → vrels C'' xs vs
  | [], [], _, _ => by simp [vrels]
  | [], _ :: _, _, r => by simp [vrels] at r
  | _ :: _, [], _, r => by simp [vrels] at r
  | x :: xs, v :: vs, hp, r => by
    simp only [idsAll] at hp
    simp only [vrels] at r ⊢
    exact ⟨vrel_res R x v hp.1 r.1, vrels_res R xs vs hp.2 r.2⟩
theorem cellsAt_res {p : Nat → Prop} {C' C'' : Ctx} (R : Res p C' C'') : ∀ (xs : List AVal) (b o : Nat), cellsAt C' b o xs → cellsAt C'' b o xs
  | [], _, _, _ => by simp [cellsAt]
  | x :: xs, b, o, r => by
    simp only [cellsAt] at r ⊢
    obtain ⟨⟨h0, h1, ⟨h2, hp⟩, v, h3, h4⟩, h5⟩ := r
    exact ⟨⟨h0, fun h => (R.own b h).elim h1 h2, ⟨fun h => h2 (R.F b h), hp⟩, v, by rw [R.H]; exact h3, vrel_res R x v (pureC_ids x hp) h4⟩, cellsAt_res R xs b (o + 1) h5⟩
theorem elemsAt_res {p : Nat → Prop} {C' C'' : Ctx} (R : Res p C' C'') : ∀ (xs : List (List AVal)) (e b o : Nat), elemsAt C' e b o xs → elemsAt C'' e b o xs
  | [], _, _, _, _ => by simp [elemsAt]
  | x :: xs, e, b, o, r => by
    simp only [elemsAt] at r ⊢
    exact ⟨r.1, cellsAt_res R x b o r.2.1, elemsAt_res R xs e b (o + e) r.2.2⟩
end

/-- The abstract heap is laid back. -/
def Ctx.back (C0 C' : Ctx) : Ctx := { σ := C0.σ, H := C'.H, mu := C0.mu, F := C0.F }

/-- The lock is raised. -/
def Ctx.locked (C0 : Ctx) : Ctx := { C0 with σ := { C0.σ with lock := C0.σ.next } }

theorem back_res {C0 C' : Ctx} {w w' : World} (h0 : HRel C0) (st : Stp C0.H.size C0.locked w C' w') : Res C0.live C' (C0.back C') := by
  have lt : ∀ id, C0.live id → id < C0.locked.σ.lock := fun id h => h0.lt h
  refine ⟨fun id h _ => h, fun id h => ((st.kept id (lt id h)).1).symm, fun id h => ((st.kept id (lt id h)).2).symm, rfl, fun b hb => ?_, fun b hb => ?_⟩
  · obtain ⟨id, h1, h2⟩ := hb
    have h1' : C0.live id := h1
    exact .inl ⟨id, st.v.live id h1', by rw [(st.kept id (lt id h1')).2]; exact h2⟩
  · exact (st.fs b (h0.small b hb)).2 hb

theorem back_H {C0 C' : Ctx} {w w' : World} (h0 : HRel C0) (h' : HRel C') (st : Stp C0.H.size C0.locked w C' w') : HRel (C0.back C') := by
  have R := back_res h0 st
  have lt : ∀ id, C0.live id → id < C0.locked.σ.lock := fun id h => h0.lt h
  refine ⟨fun id hi => ?_, h0.gone, fun i j hi hj e => h0.inj i j hi hj e, h0.free, fun b hb => Nat.lt_of_lt_of_le (h0.small b hb) st.size, h0.lock⟩
  have hi0 : C0.live id := hi
  obtain ⟨b0, g0, r0⟩ := h0.here id hi0
  obtain ⟨b, g, r⟩ := h'.here id (st.v.live id hi0)
  obtain ⟨k1, k2⟩ := st.kept id (lt id hi0)
  have e : b = b0 := by
    have : C'.σ.m.get id = some b0 := k1.trans g0
    rw [g] at this; injection this
  subst e
  refine ⟨b, g0, ?_⟩
  rw [k2] at r
  show blockRel (C0.back C') (C0.mu id) b
  cases b with
  | cells v ty cs fz sx =>
    simp only [blockRel] at r r0 ⊢
    obtain ⟨arr, fr, r1, r2, r3, r4⟩ := r
    obtain ⟨_, _, _, _, q3, _⟩ := r0
    refine ⟨arr, fr, r1, r2, fun j hj => ?_, r4⟩
    obtain ⟨_, u0, _, hu0⟩ := q3 j hj
    obtain ⟨h1, u, hu, ru⟩ := r3 j hj
    exact ⟨h1, u, hu, vrel_res R _ _ (vrel_ids _ _ hu0) ru⟩
  | amap es cl =>
    simp only [blockRel] at r r0 ⊢
    obtain ⟨ces, r1, r2⟩ := r
    obtain ⟨ces0, _, q2⟩ := r0
    refine ⟨ces, r1, ?_⟩
    have go : ∀ (es : List (AVal × AVal × Nat)) (l l0 : List MapEntry), entriesRel C' es l → entriesRel C0 es l0 → entriesRel (C0.back C') es l := by
      intro es
      induction es with
      | nil => intro l l0 h _; cases l <;> simp [entriesRel] at h ⊢
      | cons x es ih =>
        intro l l0 h k
        cases l with
        | nil => simp [entriesRel] at h
        | cons y l =>
          cases l0 with
          | nil => simp [entriesRel] at k
          | cons z l0 =>
            simp only [entriesRel] at h k ⊢
            exact ⟨⟨vrel_res R _ _ (vrel_ids _ _ k.1.1) h.1.1, vrel_res R _ _ (vrel_ids _ _ k.1.2.1) h.1.2.1, h.1.2.2⟩, ih l l0 h.2 k.2⟩
    exact go es _ _ r2 q2
  | siter st' pos =>
    simp only [blockRel] at r ⊢
    exact r

theorem back_S {C0 C' : Ctx} {w w' : World} (h0 : HRel C0) (st : Stp C0.H.size C0.locked w C' w') : Stp C0.H.size C0 w (C0.back C') w' := by
  have lt : ∀ id, C0.live id → id < C0.locked.σ.lock := fun id h => h0.lt h
  refine ⟨st.os, st.tape, st.output, st.size, Nat.le_refl _, ⟨fun id h => h, fun id _ h => h, fun id hi => ⟨Nat.le_refl _, fun _ => ⟨rfl, Nat.le_refl _, ?_⟩⟩, fun b hb ho hf => ⟨(st.v.imm b hb ho hf).1, ho, hf⟩⟩, fun b hb ho => ⟨(st.old b hb ho).1, ho⟩, fun _ _ => Iff.rfl, rfl, fun _ _ => ⟨rfl, rfl⟩⟩
  have k := st.kept id (lt id hi)
  have hv : C'.ver id = C0.locked.ver id := by simp only [Ctx.ver, k.1]
  have := ((st.v.ids id hi).2 hv).2.2
  simp only [Ctx.asize] at this ⊢
  rw [k.2] at this
  exact this

theorem locked_V (C0 : Ctx) : V C0 C0.locked := ⟨fun _ h => h, fun _ _ h => h, fun _ _ => ⟨Nat.le_refl _, fun _ => ⟨rfl, Nat.le_refl _, rfl⟩⟩, fun _ _ h1 h2 => ⟨rfl, h1, h2⟩⟩

theorem locked_H {C0 : Ctx} (h : HRel C0) : HRel C0.locked := by
  refine ⟨fun id hi => ?_, h.gone, h.inj, h.free, h.small, Nat.le_refl _⟩
  obtain ⟨b, g, r⟩ := h.here id hi
  exact ⟨b, g, blockRel_mono (locked_V C0) rfl r⟩

/-- The frame's own boxes are forgotten. -/
def Ctx.leave (C0 C' : Ctx) : Ctx := { C' with F := C0.F }

theorem leave_V {C0 C' : Ctx} {w w' : World} (h0 : HRel C0) (st : Stp C0.H.size C0 w C' w') : V C' (C0.leave C') :=
  ⟨fun _ h => h, fun _ _ h => h, fun _ _ => ⟨Nat.le_refl _, fun _ => ⟨rfl, Nat.le_refl _, rfl⟩⟩, fun b _ h1 h2 => ⟨rfl, h1, fun hf => h2 ((st.fs b (h0.small b hf)).2 hf)⟩⟩

theorem leave_H {C0 C' : Ctx} {w w' : World} (h0 : HRel C0) (h : HRel C') (st : Stp C0.H.size C0 w C' w') : HRel (C0.leave C') := by
  refine ⟨fun id hi => ?_, h.gone, h.inj, fun i hi hf => h.free i hi ((st.fs _ (h0.small _ hf)).2 hf), fun b hb => Nat.lt_of_lt_of_le (h0.small b hb) st.size, h.lock⟩
  obtain ⟨b, g, r⟩ := h.here id hi
  exact ⟨b, g, blockRel_mono (leave_V h0 st) rfl r⟩

theorem leave_S {C0 C' : Ctx} {w w' : World} (_h0 : HRel C0) (st : Stp C0.H.size C0 w C' w') : Stp C0.H.size C0 w (C0.leave C') w' :=
  ⟨st.os, st.tape, st.output, st.size, st.next, ⟨st.v.live, st.v.maps, st.v.ids, fun b hb ho hf => ⟨(st.v.imm b hb ho hf).1, (st.v.imm b hb ho hf).2.1, hf⟩⟩, st.old, fun _ _ => Iff.rfl, st.lock, st.kept⟩

theorem elemsAt_chunks {C : Ctx} {b e : Nat} (ho : ¬ C.Own b) (hf : ¬ C.F b) : ∀ (k : Nat) (l : List AVal) (o : Nat), l.length = k * e → (∀ (j : Nat) (z : AVal), l[j]? = some z → pureC z = true ∧ holds C b (o + j) z) → elemsAt C e b o (chunks k e l)
  | 0, _, _, _, _ => by simp [chunks, elemsAt]
  | k + 1, l, o, hl, hc => by
    have hl' : l.length = k * e + e := by rw [hl, Nat.succ_mul]
    simp only [chunks, elemsAt]
    refine ⟨by rw [List.length_take]; omega, cellsAt_of ho hf fun j z hz => ?_, elemsAt_chunks ho hf k (l.drop e) (o + e) (by rw [List.length_drop]; omega) fun j z hz => ?_⟩
    · rw [List.getElem?_take] at hz
      split at hz
      · exact hc j z hz
      · cases hz
    · rw [List.getElem?_drop] at hz
      have := hc _ z hz
      rwa [← Nat.add_assoc] at this

section
variable {C0 C' : Ctx} {w w' : World}

mutual
/-- What is told of a pure call leans on nothing new. -/
theorem freeze_ok (h0 : HRel C0) (h' : HRel C') (st : Stp C0.H.size C0.locked w C' w') : ∀ (k : Nat) (deep : Bool) (x y : AVal) (v : Value), freeze C'.σ C0.σ.next k deep x = some y → vrel C' x v → vrel (C0.back C') y v ∧ (one x = true → one y = true)
  | 0, _, _, _, _, hf, _ => by simp [freeze] at hf
  | k + 1, deep, x, y, v, hf, r => by
    have R := back_res h0 st
    have old : ∀ id, id < C0.σ.next → C'.live id → C0.live id := fun id hid hl => by
      have := (st.kept id hid).1
      unfold Ctx.live at hl ⊢
      rw [this] at hl; exact hl
    have same : ∀ x, idsIn C0.live x → vrel C' x v → some x = some y → vrel (C0.back C') y v ∧ (one x = true → one y = true) := fun x hi hr he => by
      injection he with he; subst he
      exact ⟨vrel_res R x v hi hr, fun h => h⟩
    cases x with
    | dead => simp [freeze] at hf
    | loc d o => simp [freeze] at hf
    | iptr c o => simp [freeze] at hf
    | func fn a b => simp [freeze] at hf
    | bool b => simp only [freeze] at hf; exact same _ (by simp [idsIn]) r hf
    | int k n => simp only [freeze] at hf; exact same _ (by simp [idsIn]) r hf
    | str b => simp only [freeze] at hf; exact same _ (by simp [idsIn]) r hf
    | nilp => simp only [freeze] at hf; exact same _ (by simp [idsIn]) r hf
    | nils => simp only [freeze] at hf; exact same _ (by simp [idsIn]) r hf
    | nilm => simp only [freeze] at hf; exact same _ (by simp [idsIn]) r hf
    | nilf => simp only [freeze] at hf; exact same _ (by simp [idsIn]) r hf
    | nili => simp only [freeze] at hf; exact same _ (by simp [idsIn]) r hf
    | gptr g o => simp only [freeze] at hf; exact same _ (by simp [idsIn]) r hf
    | imm e xs ex => simp only [freeze] at hf; exact same _ (by simp [idsIn]) r hf
    | ptr id ver off =>
      simp only [freeze] at hf
      cases hc : (!deep && Nat.blt id C0.σ.next) with
      | false => rw [hc] at hf; cases hf
      | true =>
        rw [hc] at hf
        rw [Bool.and_eq_true] at hc
        have hid : id < C0.σ.next := Nat.le_of_ble_eq_true hc.2
        exact same _ (by simp only [idsIn]; exact old id hid (by simp only [vrel] at r; exact r.1)) r hf
    | mp id =>
      simp only [freeze] at hf
      cases hc : (!deep && Nat.blt id C0.σ.next) with
      | false => rw [hc] at hf; cases hf
      | true =>
        rw [hc] at hf
        rw [Bool.and_eq_true] at hc
        have hid : id < C0.σ.next := Nat.le_of_ble_eq_true hc.2
        exact same _ (by simp only [idsIn]; exact old id hid (by simp only [vrel] at r; exact r.1)) r hf
    | sl id ver off len cap e =>
      simp only [freeze] at hf
      cases hc : Nat.blt id C0.σ.next with
      | true =>
        rw [hc] at hf
        have hid : id < C0.σ.next := Nat.le_of_ble_eq_true hc
        cases deep with
        | true => cases hf
        | false => exact same _ (by simp only [idsIn]; exact old id hid (by simp only [vrel] at r; exact r.1)) r hf
      | false =>
        rw [hc] at hf
        have hid : ¬ id < C0.σ.next := fun h => by rw [show Nat.blt id C0.σ.next = true from Nat.ble_eq_true_of_le h] at hc; cases hc
        simp only [cond_false] at hf
        split at hf
        · rename_i ty cs fz sx hcs
          split at hf
          · rename_i c hg
            split at hf
            · rename_i c' hfa
              cases hq : (Nat.blt 0 e && c'.all pureC) with
              | false => rw [hq] at hf; cases hf
              | true =>
                rw [hq] at hf
                rw [Bool.and_eq_true] at hq
                injection hf with hf; subst hf
                refine ⟨?_, fun _ => rfl⟩
                simp only [vrel] at r
                obtain ⟨r1, r2, r3, b, q, cp, r4, r5, r6, r7⟩ := r
                obtain ⟨g1, g2⟩ := live_ver hcs
                obtain ⟨u1, u2, u3, _⟩ := r7 g1.symm
                have hgs := cells?_some hcs
                obtain ⟨bl, k1, k2⟩ := h'.here id r1
                rw [hgs] at k1; injection k1 with k1; subst k1
                simp only [blockRel] at k2
                obtain ⟨arr, fr, _, _, k3, _⟩ := k2
                obtain ⟨t1, t2, t3, t4⟩ := getAt_some hg
                have hcl : c.length = len * e := by first | exact t2 | exact t3 | omega
                have hh : ∀ (j : Nat) (z : AVal), c[j]? = some z → holds C' b (q + j) z := fun j z hz => by
                  obtain ⟨p1, p2⟩ := List.getElem?_eq_some_iff.1 (t4 j z hz)
                  have := k3 (off + j) p1
                  rw [p2] at this
                  rw [u2, u3, Nat.add_assoc]; exact this
                obtain ⟨s1, vs, s2, s3, s4⟩ := list_of_holds c q hh
                obtain ⟨f1, f2, f3⟩ := freezeAll_ok h0 h' st k true c c' vs hfa s2
                have hlen : (chunks len e c').length = len := chunks_length _ _ _
                simp only [vrel]
                refine ⟨b, q, cp, none, by rw [hlen]; exact r4, fun _ => rfl, by rw [hlen]; exact r5, fun hex => ?_, ?_⟩
                · rw [hlen]
                  cases cap with
                  | none => cases hex
                  | some m => have := r6 m rfl; have := Nat.eq_of_beq_eq_true hex; omega
                · refine elemsAt_chunks ?_ ?_ len c' q (by rw [f3, hcl]) fun j z hz => ?_
                  · rintro ⟨id0, hl0, hb0⟩
                    have hl0' : C0.live id0 := hl0
                    have hk := st.kept id0 (h0.lt hl0')
                    have := h'.inj id id0 r1 (st.v.live id0 hl0') (by rw [← u2, hk.2]; exact hb0.symm)
                    subst this
                    exact hid (h0.lt hl0')
                  · intro hF
                    have : C'.F b := (st.fs b (h0.small b hF)).2 hF
                    rw [u2] at this
                    exact h'.free id r1 this
                  · refine ⟨by have := hq.2; rw [List.all_eq_true] at this; exact this z (List.mem_of_getElem? hz), ?_⟩
                    obtain ⟨u, hu, ru⟩ := vrels_get f1 j z hz
                    refine ⟨by have := f2 s1; rw [List.all_eq_true] at this; exact this z (List.mem_of_getElem? hz), u, ?_, ru⟩
                    exact s4 j u hu
            · cases hf
          · cases hf
        · cases hf
    | iface t x =>
      simp only [freeze] at hf
      split at hf
      · rename_i y' hy
        injection hf with hf; subst hf
        simp only [vrel] at r
        obtain ⟨u, rfl, r⟩ := r
        have := freeze_ok h0 h' st k deep x y' u hy r
        refine ⟨?_, fun _ => rfl⟩
        simp only [vrel]
        exact ⟨u, rfl, this.1⟩
      · cases hf
    | agg cs =>
      simp only [freeze] at hf
      split at hf
      · rename_i l hy
        injection hf with hf; subst hf
        simp only [vrel] at r
        obtain ⟨h1, arr, rfl, r⟩ := r
        obtain ⟨f1, f2, f3⟩ := freezeAll_ok h0 h' st k deep cs l _ hy r
        refine ⟨?_, fun h => by simp [one] at h⟩
        simp only [vrel]
        exact ⟨f2 h1, arr, rfl, f1⟩
      · cases hf
    | tup cs =>
      simp only [freeze] at hf
      split at hf
      · rename_i l hy
        injection hf with hf; subst hf
        simp only [vrel] at r
        obtain ⟨arr, rfl, r⟩ := r
        obtain ⟨f1, f2, f3⟩ := freezeAll_ok h0 h' st k deep cs l _ hy r
        refine ⟨?_, fun h => by simp [one] at h⟩
        simp only [vrel]
        exact ⟨arr, rfl, f1⟩
      · cases hf
theorem freezeAll_ok (h0 : HRel C0) (h' : HRel C') (st : Stp C0.H.size C0.locked w C' w') : ∀ (k : Nat) (deep : Bool) (xs ys : List AVal) (vs : List Value), freezeAll C'.σ C0.σ.next k deep xs = some ys → vrels C' xs vs → vrels (C0.back C') ys vs ∧ (xs.all one = true → ys.all one = true) ∧ ys.length = xs.length
  | 0, _, _, _, _, hf, _ => by simp [freezeAll] at hf
  | k + 1, deep, [], ys, vs, hf, r => by
    simp only [freezeAll, Option.some.injEq] at hf
    subst hf
    cases vs with
    | nil => exact ⟨by simp [vrels], fun _ => rfl, rfl⟩
    | cons _ _ => simp [vrels] at r
  | k + 1, deep, x :: xs, ys, vs, hf, r => by
    simp only [freezeAll] at hf
    split at hf
    · rename_i a b ha hb
      injection hf with hf; subst hf
      cases vs with
      | nil => simp [vrels] at r
      | cons v vs =>
        simp only [vrels] at r
        obtain ⟨f1, f2⟩ := freeze_ok h0 h' st k deep x a v ha r.1
        obtain ⟨g1, g2, g3⟩ := freezeAll_ok h0 h' st k deep xs b vs hb r.2
        refine ⟨by simp only [vrels]; exact ⟨f1, g1⟩, fun h => ?_, by simp [g3]⟩
        simp only [List.all_cons, Bool.and_eq_true] at h ⊢
        exact ⟨f2 h.1, g2 h.2⟩
    · cases hf
end
end
end Wab
/- Functions: bodies, deferred calls, results. -/
namespace Wab
open Go

theorem initT_get : ∀ (vs : List AVal) (i : Nat) (t : Tr AVal) (k : Nat), (initT vs i t).get k = if i ≤ k ∧ k < i + vs.length then vs[k - i]? else t.get k
  | [], i, t, k => by simp [initT]; intro h1 h2; omega
  | v :: vs, i, t, k => by
    rw [initT, initT_get vs, Tr.get_set]
    by_cases h1 : k = i
    · subst h1
      rw [if_neg (by omega), if_pos rfl, if_pos (by simp)]
      simp
    · by_cases h2 : i + 1 ≤ k ∧ k < i + 1 + vs.length
      · rw [if_pos h2, if_pos (by simp; omega)]
        rw [show k - i = (k - (i + 1)) + 1 from by omega]; simp
      · rw [if_neg h2, if_neg h1, if_neg (by simp; omega)]

section
variable {P : Program} {n nt : Nat} {C : Ctx} {Lm : Nat → Option Nat} {s : St} {a : Act} {w : World}

theorem lf_get {α : Type} (k : Nat) : (Tr.lf : Tr α).get k = none := rfl

theorem init_inv {args : List AVal} {cargs : Array Value} (hw : w.heap = C.H) (hr : HRel C) (ra : vrels C args cargs.toList) (nt : Nat) :
    Inv C.H.size nt C (fun _ => none) { t := initT args 0 .lf, l := .lf, h := C.σ, d := [] } { tmps := cargs ++ Array.replicate (nt - cargs.size) undef, defers := [] } w := by
  have hl := vrels_length ra
  simp only [Array.length_toList] at hl
  refine ⟨hw, rfl, hr, Nat.le_refl _, by simp; omega, fun t => trel_of_vrel ?_, (fun d bx h => by cases h), (fun d b h => by cases h), (fun d d' b h => by cases h), by simp [defRel]⟩
  rw [initT_get]
  by_cases h : t < args.length
  · rw [if_pos (by omega)]
    obtain ⟨u, hu, ru⟩ := vrels_get ra t args[t] (by simp)
    have e1 : args[t - 0]? = some args[t] := by simp
    have hu' : cargs[t]? = some u := by simpa using hu
    have e2 : (cargs ++ Array.replicate (nt - cargs.size) undef).getD t undef = u := by
      rw [Array.getD_eq_getD_getElem?, Array.getElem?_append_left (by omega), hu']; rfl
    rw [e1, e2]; exact ru
  · rw [if_neg (by omega), lf_get]
    have e2 : (cargs ++ Array.replicate (nt - cargs.size) undef).getD t undef = undef := by
      rw [Array.getD_eq_getD_getElem?, Array.getElem?_append_right (by omega), Array.getElem?_replicate]
      split <;> rfl
    rw [e2]
    exact vrel_noRes C

/-- One result. -/
def resF (tmps : Array Value) : ResultVar → Sem Value
  | .tmp t => pure (tmps.getD t undef)
  | .cell c t => do loadVar t (← asAddr (tmps.getD c undef))

theorem results_eq (fn : Func) (tmps : Array Value) : results fn tmps = (do let vs ← fn.results.mapM (resF tmps); pure (if h : vs.size = 1 then vs[0] else .tuple vs)) := rfl

theorem results_list (i : Inv n nt C Lm s a w) : ∀ (rs : List ResultVar) (r : List ARes) (vs : List AVal), trRes P rs = some r → resA s r = some vs →
    ∃ us : List Value, (rs.mapM (resF a.tmps)).run P w = .ok us w ∧ vrels C vs us
  | [], r, vs, h, hz => by
    simp [trRes] at h; subst h
    simp [resA] at hz; subst hz
    exact ⟨[], by simp, by simp [vrels]⟩
  | .tmp t :: rs, r, vs, h, hz => by
    simp only [trRes, Option.map_eq_some_iff] at h
    obtain ⟨r', h1, rfl⟩ := h
    simp only [resA] at hz
    split at hz
    · rename_i v vs' h2 h3
      injection hz with hz; subst hz
      obtain ⟨us, g1, g2⟩ := results_list i rs r' vs' h1 h3
      obtain ⟨e, hn⟩ := nl_some h2
      have := (i.tm t).2 (by rw [← e]; exact e ▸ hn)
      refine ⟨a.tmps.getD t undef :: us, ?_, ?_⟩
      · rw [List.mapM_cons]; simp only [resF, Sem.run_bind, Sem.run_pure, Result.andThen_ok, g1]
      · simp only [vrels]; exact ⟨by rw [e]; exact this, g2⟩
    · cases hz
  | .cell c t :: rs, r, vs, h, hz => by
    simp only [trRes] at h
    split at h
    · rename_i g m r' h1 h2 h3
      cases hc : (g || Nat.beq m 1) with
      | false => rw [hc] at h; cases h
      | true =>
        rw [hc] at h; injection h with h; subst h
        simp only [resA] at hz
        split at hz
        · rename_i v vs' h4 h5
          injection hz with hz; subst hz
          obtain ⟨us, g1, g2⟩ := results_list i rs r' vs' h3 h5
          obtain ⟨p, u, k1, k2, k3⟩ := read_ok (P := P) i h1 h2 (i.tm c) h4
          refine ⟨u :: us, ?_, ?_⟩
          · rw [List.mapM_cons]; simp only [resF, Sem.run_bind, Sem.run_pure, Result.andThen_ok, g1, k1, asAddr, k2]
          · simp only [vrels]; exact ⟨k3, g2⟩
        · cases hz
    · cases h

theorem results_ok (i : Inv n nt C Lm s a w) {fn : Func} {r : List ARes} (h : trRes P fn.results.toList = some r) {vs : List AVal} (hz : resA s r = some vs) : ∃ v, (results fn a.tmps).run P w = .ok v w ∧ vrel C (packRes vs) v := by
  obtain ⟨us, h1, h2⟩ := results_list (P := P) i _ _ _ h hz
  have hm : (fn.results.mapM (resF a.tmps)).run P w = .ok us.toArray w := by
    rw [← Array.toArray_toList (xs := fn.results), List.mapM_toArray]
    simp [h1]
  refine ⟨if h : us.toArray.size = 1 then us.toArray[0] else .tuple us.toArray, ?_, ?_⟩
  · rw [results_eq]
    simp only [Sem.run_bind, hm, Result.andThen_ok, Sem.run_pure]
  · cases vs with
    | nil =>
      cases us with
      | nil => simp [packRes, vrel, vrels]
      | cons u us => simp [vrels] at h2
    | cons v vs =>
      cases us with
      | nil => simp [vrels] at h2
      | cons u us =>
        cases vs with
        | nil =>
          cases us with
          | nil => simp only [vrels] at h2; simpa [packRes] using h2.1
          | cons u2 us => simp [vrels] at h2
        | cons v2 vs =>
          cases us with
          | nil => simp [vrels] at h2
          | cons u2 us =>
            rw [dif_neg (by simp)]
            simp only [packRes, vrel]
            exact ⟨_, rfl, by simpa using h2⟩

/-- The deferred calls. -/
theorem defers_ok {D : Oracle} (hD : DSound P D) {fn : Func} {R : Ending → World → Prop} : ∀ (ds : List (AVal × List AVal)) (dvs : List Deferred) {C : Ctx} {s : St} {w : World} {h2 : AHeap}, runDef D ds s.h = some h2 → defRel C ds dvs → Inv n nt C Lm s a w →
    (∀ C' w', Inv n nt C' Lm { s with h := h2 } a w' → Stp n C w C' w' → ∃ v, (results fn a.tmps).run P w' = .ok v w' ∧ R (.returned v) w') → Leaves P fn a.tmps R dvs .returning w
  | [], dvs, C, s, w, h2, hr, hd, i, hq => by
    cases dvs with
    | cons _ _ => simp [defRel] at hd
    | nil =>
      simp only [runDef, Option.some.injEq] at hr
      subst hr
      exact hq C w i (Stp.refl _ _ _)
  | (f, args) :: ds, dvs, C, s, w, h2, hr, hd, i, hq => by
    cases dvs with
    | nil => simp [defRel] at hd
    | cons d dvs =>
      simp only [defRel] at hd
      obtain ⟨hd1, hd2⟩ := hd
      simp only [runDef] at hr
      split at hr
      · rename_i g first cap
        simp only [defRel1] at hd1
        obtain ⟨f', c', as', rfl, r1, r2, r3⟩ := hd1
        split at hr
        · rename_i v h' hc
          have hall : vrels C (first ++ args ++ cap) (f' ++ as' ++ c').toList := by
            simp only [Array.toList_append]
            exact vrels_append (vrels_append r1 r3) r2
          obtain ⟨e1, e2⟩ := hD g _ _ _ _ hc C _ w i.heap i.σ i.hr hall
          refine leaves_cons (by simp) (f := g) (args := f' ++ as' ++ c') (by simpa [invoke] using e1) (CallsD.mono (e2 .returning) fun e u' w' he => ?_)
          obtain ⟨rfl, v', rfl, hp⟩ := he
          obtain ⟨C', i', _, st⟩ := i.called hp
          exact defers_ok hD ds dvs (s := { s with h := h' }) hr (defRel_mono st.v _ _ hd2) i' fun C'' w'' i'' st'' => hq C'' w'' i'' (st.trans st'')
        · cases hr
      · cases hr
end
end Wab
/- Functions are sound. -/
namespace Wab
open Go

/-- The drawn regions of a function, at whatever base. -/
def DrawnOk (P : Program) (O : Oracle) (lm : Locs) (lits : List Nat) (nt : Nat) (pu : Nat → Bool) : Prop :=
  ∀ (n id : Nat) (ops : Array Oper) (l : List AOper), trOpers P lm lits nt pu ops ops.toList = some l → edgesOk ops = true → CodeOk P O n nt (.region id ops true) (.regionD (Region.before ops).toList l)

theorem trFunc_some {P : Program} {lm : Locs} {lits : List Nat} {pu : Nat → Bool} {self : Bool} {fn : Func} {afn : AFunc} (h : trFunc P lm lits pu self fn = some afn) :
    ∃ c r, fn.body = some c ∧ trRes P fn.results.toList = some r ∧ (fn.name == "runtime.NumGoroutine") = false ∧ afn = { pure := self, code := trCode P lm lits fn.ntmps pu c, res := r, ext := 0 } := by
  unfold trFunc at h
  split at h
  · rename_i c r h1 h2
    cases hn : (fn.name == "runtime.NumGoroutine") with
    | true => rw [hn] at h; cases h
    | false => rw [hn] at h; injection h with h; exact ⟨c, r, h1, h2, rfl, h.symm⟩
  · cases h

section
variable {P : Program} {O D : Oracle} {lm : Locs} {lits : List Nat} {pu : Nat → Bool} {self : Bool} {fn : Func} {afn : AFunc} {f : Nat}

theorem callFunc_enter (hf : P.funcs[f]? = some fn) {c : Code} (hb : fn.body = some c) (hn : (fn.name == "runtime.NumGoroutine") = false) (args : Array Value) (w : World) : (callFunc f args).run P w = .ok (.enter f args) w := by
  have hne : ¬ fn.name = "runtime.NumGoroutine" := by intro e; rw [e] at hn; simp at hn
  simp [callFunc, hf, hb, hne]

theorem normal_or {k : Nat} {args : List AVal} {h : AHeap} {s : St} (hb : runBody O k afn args h = some s) :
    ∃ e, (e = .normal ∨ e = .ret) ∧ aexec O k afn.code { t := initT args 0 .lf, l := .lf, h := cond afn.pure { h with lock := h.next } h, d := [] } = some (e, s) := by
  unfold runBody at hb
  split at hb
  · rename_i s1 h1; injection hb with hb; subst hb; exact ⟨_, .inl rfl, h1⟩
  · rename_i s1 h1; injection hb with hb; subst hb; exact ⟨_, .inr rfl, h1⟩
  · cases hb

/-- The context that a body begins in. -/
def Ctx.start (C : Ctx) (p : Bool) : Ctx := cond p C.locked C

/-- What is told at the end. -/
theorem finish_ok {nt : Nat} {C C' : Ctx} {Lm : Nat → Option Nat} {s : St} {h2 : AHeap} {a : Act} {w w' : World} {r : List ARes} {k : Nat} (hp : self = true ∨ self = false) (htr : trRes P fn.results.toList = some r) (h0 : HRel C) (i : Inv C.H.size nt C' Lm { s with h := h2 } a w') (st : Stp C.H.size (C.start self) w C' w')
    {cd : ACode} {z : AVal} {h' : AHeap} (hf : finish k { pure := self, code := cd, res := r, ext := 0 } C.σ s h2 = some (z, h')) : ∃ v, (results fn a.tmps).run P w' = .ok v w' ∧ Post C w z h' v w' := by
  unfold finish at hf
  split at hf
  · cases hf
  · rename_i vs hvs
    obtain ⟨v, h1, h2'⟩ := results_ok (P := P) i htr hvs
    refine ⟨v, h1, ?_⟩
    cases self with
    | true =>
      simp only [cond_true] at hf
      split at hf
      · rename_i y hy
        injection hf with hf; injection hf with e1 e2; subst e1; subst e2
        have hσ : C'.σ = h2 := i.σ
        rw [← hσ] at hy
        obtain ⟨f1, _⟩ := freeze_ok h0 i.hr st k false _ _ v hy h2'
        exact ⟨C.back C', i.heap, rfl, back_H h0 i.hr st, f1, back_S h0 st, fun _ => Iff.rfl⟩
      · cases hf
    | false =>
      simp only [cond_false] at hf
      injection hf with hf; injection hf with e1 e2; subst e1; subst e2
      exact ⟨C.leave C', i.heap, i.σ, leave_H h0 i.hr st, vrel_mono (leave_V h0 st) _ _ h2', leave_S h0 st, fun _ => Iff.rfl⟩

theorem start_H {C : Ctx} (h : HRel C) (p : Bool) : HRel (C.start p) := by cases p; exact h; exact locked_H h
theorem start_V (C : Ctx) (p : Bool) : V C (C.start p) := by cases p; exact V.refl C; exact locked_V C
theorem start_size (C : Ctx) (p : Bool) : (C.start p).H = C.H := by cases p <;> rfl
theorem start_σ (C : Ctx) (p : Bool) : (C.start p).σ = cond p { C.σ with lock := C.σ.next } C.σ := by cases p <;> rfl

/-- A body, up to its end. -/
theorem body_ok (hO : OSound P O) (hp : PureOk pu O) (hD : DrawnOk P O lm lits fn.ntmps pu) {c : Code} {r : List ARes} {k : Nat} {args : List AVal} {C : Ctx} {s : St} (hb : runBody O k { pure := self, code := trCode P lm lits fn.ntmps pu c, res := r, ext := 0 } args C.σ = some s)
    {cargs : Array Value} {w : World} (hw : w.heap = C.H) (h0 : HRel C) (ra : vrels C args cargs.toList) {Q : Exit → Act → World → Prop}
    (hq : ∀ e a' w' C' Lm', (e = .normal ∨ e = .ret) → Inv C.H.size fn.ntmps C' Lm' s a' w' → Stp C.H.size (C.start self) w C' w' → Q e a' w') :
    c.wp P Q { tmps := cargs ++ Array.replicate (fn.ntmps - cargs.size) undef, defers := [] } w := by
  obtain ⟨e, he, hx⟩ := normal_or hb
  have i0 := init_inv (C := C.start self) (by rw [start_size]; exact hw) (start_H h0 self) (vrels_mono (start_V C self) _ _ ra) fn.ntmps
  rw [start_size, start_σ] at i0
  refine code_ok hO hp (hD C.H.size) c k _ s e hx (C.start self) _ _ w i0 Q fun a' w' C' Lm' i' st' => ?_
  refine hq _ a' w' C' Lm' ?_ i' st'
  rcases he with rfl | rfl
  · exact .inl rfl
  · exact .inr rfl

theorem runFn_ok (hO : OSound P O) (hp : PureOk pu O) (hDs : DSound P D) (hD : DrawnOk P O lm lits fn.ntmps pu) (hf : P.funcs[f]? = some fn) (ht : trFunc P lm lits pu self fn = some afn) {k : Nat} {args : List AVal} {h : AHeap} {z : AVal} {h' : AHeap} (hr : runFn O D k afn args h = some (z, h')) :
    ∀ (C : Ctx) (cargs : Array Value) (w : World), w.heap = C.H → C.σ = h → HRel C → vrels C args cargs.toList → CallOk P f cargs w (Post C w z h') := by
  intro C cargs w hw hσ h0 ra
  subst hσ
  obtain ⟨c, r, hb, htr, hn, rfl⟩ := trFunc_some ht
  refine .inr ⟨callFunc_enter hf hb hn cargs w, ?_⟩
  simp only [runFn] at hr
  split at hr
  · rename_i s hs
    split at hr
    · rename_i h2 hd
      have key0 : Calls P f cargs w fun e w' => ∃ v, e = .returned v ∧ Post C w z h' v w' := by
       refine calls_of_wp_defers hf hb (body_ok hO hp hD hs hw h0 ra fun e a' w' C' Lm' he i' st' => ?_)
       have key : Leaves P fn a'.tmps (fun e w' => ∃ v, e = .returned v ∧ Post C w z h' v w') a'.defers .returning w' := by
         refine defers_ok hDs s.d a'.defers hd i'.de i' fun C'' w'' i'' st'' => ?_
         have st2 : Stp C.H.size (C.start self) w C'' w'' := st'.trans st''
         obtain ⟨v, h1, h3⟩ := finish_ok (by cases self <;> simp) htr h0 i'' st2 hr
         exact ⟨v, h1, v, rfl, h3⟩
       rcases he with rfl | rfl
       · exact key
       · exact key
      refine Calls.mono key0 fun e w' he => ?_
      obtain ⟨v, rfl, h3⟩ := he
      exact h3
    · cases hr
  · cases hr

theorem runFn0_ok (hO : OSound P O) (hp : PureOk pu O) (hD : DrawnOk P O lm lits fn.ntmps pu) (hf : P.funcs[f]? = some fn) (ht : trFunc P lm lits pu self fn = some afn) {k : Nat} {args : List AVal} {h : AHeap} {z : AVal} {h' : AHeap} (hr : runFn0 O k afn args h = some (z, h')) :
    ∀ (C : Ctx) (cargs : Array Value) (w : World), w.heap = C.H → C.σ = h → HRel C → vrels C args cargs.toList →
      (callFunc f cargs).run P w = .ok (.enter f cargs) w ∧ ∀ u, CallsD P f cargs u w fun e u' w' => u' = u ∧ ∃ v, e = .returned v ∧ Post C w z h' v w' := by
  intro C cargs w hw hσ h0 ra
  subst hσ
  obtain ⟨c, r, hb, htr, hn, rfl⟩ := trFunc_some ht
  refine ⟨callFunc_enter hf hb hn cargs w, fun u => ?_⟩
  simp only [runFn0] at hr
  split at hr
  · rename_i s hs
    split at hr
    · rename_i hd
      refine callsD_of_wp (R := fun e w' => ∃ v, e = .returned v ∧ Post C w z h' v w') hf hb (body_ok hO hp hD hs hw h0 ra fun e a' w' C' Lm' he i' st' => ?_)
      have hde := i'.de
      rw [hd] at hde
      have hnil : a'.defers = [] := by
        cases hx : a'.defers with
        | nil => rfl
        | cons _ _ => rw [hx] at hde; simp [defRel] at hde
      obtain ⟨v, h1, h3⟩ := finish_ok (s := s) (h2 := s.h) (by cases self <;> simp) htr h0 i' st' hr
      rcases he with rfl | rfl
      · exact ⟨hnil, v, h1, v, rfl, h3⟩
      · exact ⟨hnil, v, h1, v, rfl, h3⟩
    · cases hr
  · cases hr

/-- A pure function leaves the abstract heap. -/
theorem runFn_pure {k : Nat} {args : List AVal} {h : AHeap} {z : AVal} {h' : AHeap} (h0 : afn.ext = 0) (hp : afn.pure = true) (hr : runFn O D k afn args h = some (z, h')) : h' = h := by
  unfold runFn at hr
  rw [h0] at hr
  simp only at hr
  split at hr
  · split at hr
    · unfold finish at hr
      split at hr
      · cases hr
      · rw [hp] at hr
        simp only [cond_true] at hr
        split at hr
        · injection hr with hr; injection hr with _ e; exact e.symm
        · cases hr
    · cases hr
  · cases hr
end
end Wab
/- A program's runs are sound. -/
namespace Wab
open Go

def puOf (P' : Tr AFunc) (f : Nat) : Bool := match P'.get f with
  | some a => a.pure
  | none => false

/-- The translated program is the program. -/
def Good (P : Program) (P' : Tr AFunc) : Prop :=
  ∀ f a, P'.get f = some a → ∃ fn lm lits, P.funcs[f]? = some fn ∧ trFunc P lm lits (puOf P') a.pure fn = some a

/-- All that stands in a tree. -/
def Tr.Ball {α : Type} (p : Nat → α → Prop) : Tr α → Prop
  | .lf => True
  | .nd v l r => (∀ a, v = some a → p 0 a) ∧ Tr.Ball (fun j => p (2 * j + 1)) l ∧ Tr.Ball (fun j => p (2 * j + 2)) r

theorem Tr.ball_get {α : Type} : ∀ (t : Tr α) (p : Nat → α → Prop), t.Ball p → ∀ (k : Nat) (a : α), t.get k = some a → p k a
  | .lf, _, _, _, _, h => by simp [Tr.get] at h
  | .nd v l r, p, hb, k, a, h => by
    obtain ⟨h1, h2, h3⟩ := hb
    simp only [Tr.get, cond_beq] at h
    by_cases hk : k = 0
    · rw [if_pos hk] at h; subst hk; exact h1 a h
    · rw [if_neg hk] at h
      by_cases hm : k % 2 = 1
      · rw [if_pos hm] at h
        have := Tr.ball_get l _ h2 _ a h
        rw [show 2 * (k / 2) + 1 = k from by omega] at this; exact this
      · rw [if_neg hm] at h
        have := Tr.ball_get r _ h3 _ a h
        rw [show 2 * (k / 2 - 1) + 2 = k from by omega] at this; exact this

theorem good_of {P : Program} {P' : Tr AFunc} (h : P'.Ball fun f a => ∃ fn lm lits, P.funcs[f]? = some fn ∧ trFunc P lm lits (puOf P') a.pure fn = some a) : Good P P' := fun f a hf => Tr.ball_get P' _ h f a hf

/-- What is known of functions is so. -/
structure KnownOk (P : Program) (P' : Tr AFunc) (S : Known) : Prop where
  sound : ∀ f g, S f = some g → ∀ args h r h', g args h = some (r, h') → ∀ (C : Ctx) (cargs : Array Value) (w : World), w.heap = C.H → C.σ = h → HRel C → vrels C args cargs.toList → CallOk P f cargs w (Post C w r h')
  pure : ∀ f g, S f = some g → puOf P' f = true → ∀ args h r h', g args h = some (r, h') → h' = h

/-- All drawn regions are sound. -/
def AllDrawn (P : Program) : Prop := ∀ (O : Oracle) (lm : Locs) (lits : List Nat) (nt : Nat) (pu : Nat → Bool), OSound P O → PureOk pu O → DrawnOk P O lm lits nt pu

theorem trFunc_ext {P : Program} {lm : Locs} {lits : List Nat} {pu : Nat → Bool} {self : Bool} {fn : Func} {afn : AFunc} (h : trFunc P lm lits pu self fn = some afn) : afn.ext = 0 := by
  obtain ⟨c, r, _, _, _, rfl⟩ := trFunc_some h; rfl

section
variable {P : Program} {P' : Tr AFunc} {S : Known}

theorem acallS_ok (hg : Good P P') (hs : KnownOk P P' S) (hd : AllDrawn P) : ∀ n, OSound P (acallS P' S n) ∧ PureOk (puOf P') (acallS P' S n)
  | 0 => ⟨fun f args h r h' hr => by simp [acallS] at hr, fun f _ args h r h' hr => by simp [acallS] at hr⟩
  | n + 1 => by
    obtain ⟨ih1, ih2⟩ := acallS_ok hg hs hd n
    have hD : DSound P (acall0 P' (acallS P' S n) n) := by
      intro f args h r h' hr
      unfold acall0 at hr
      split at hr
      · rename_i fn' hget
        obtain ⟨fn, lm, lits, h1, h2⟩ := hg f fn' hget
        exact runFn0_ok ih1 ih2 (hd _ lm lits fn.ntmps _ ih1 ih2) h1 h2 hr
      · cases hr
    constructor
    · intro f args h r h' hr
      unfold acallS at hr
      split at hr
      · rename_i g hsf
        exact hs.sound f g hsf args h r h' hr
      · split at hr
        · rename_i fn' hget
          obtain ⟨fn, lm, lits, h1, h2⟩ := hg f fn' hget
          exact runFn_ok ih1 ih2 hD (hd _ lm lits fn.ntmps _ ih1 ih2) h1 h2 hr
        · cases hr
    · intro f hf args h r h' hr
      unfold acallS at hr
      split at hr
      · rename_i g hsf
        exact hs.pure f g hsf hf args h r h' hr
      · split at hr
        · rename_i fn' hget
          obtain ⟨fn, lm, lits, h1, h2⟩ := hg f fn' hget
          have : fn'.pure = true := by unfold puOf at hf; rw [hget] at hf; exact hf
          exact runFn_pure (trFunc_ext h2) this hr
        · cases hr
end
end Wab
/- What an operation looks at, and what it turns. -/
namespace Wab
open Go

theorem callA_d (C : Oracle) (s : St) (d1 : List (AVal × List AVal)) (f : AVal) (as : List AVal) : callA C { s with d := d1 } f as = callA C s f as := rfl
theorem callA_l (C : Oracle) (s : St) (l1 : Tr Box) (f : AVal) (as : List AVal) : callA C { s with l := l1 } f as = callA C s f as := rfl
theorem callA_t (C : Oracle) (s : St) (t1 : Tr AVal) (f : AVal) (as : List AVal) : callA C { s with t := t1 } f as = callA C s f as := rfl

theorem writeA_d (s : St) (n : Nat) (a v : AVal) (d1 : List (AVal × List AVal)) : writeA { s with d := d1 } n a v = (writeA s n a v).map fun p => { p with d := d1 } := by
  simp only [writeA, cond_eq_ite]
  repeat' split
  all_goals (first | rfl | (simp [Option.map_map]; done) | skip)
  all_goals (simp only [Option.map_map]; rfl)

theorem writeA_t (s : St) (n : Nat) (a v : AVal) (t1 : Tr AVal) : writeA { s with t := t1 } n a v = (writeA s n a v).map fun p => { p with t := t1 } := by
  simp only [writeA, cond_eq_ite]
  repeat' split
  all_goals (first | rfl | (simp [Option.map_map]; done) | skip)
  all_goals (simp only [Option.map_map]; rfl)

/-- The deferred calls, behind an operation. -/
theorem aop_d (C : Oracle) (s : St) (op : AOp) (d1 : List (AVal × List AVal)) (hop : ∀ f as, op ≠ .defer f as) : aop C { s with d := d1 } op = (aop C s op).map fun p => (p.1, { p.2 with d := d1 }) := by
  cases op <;> simp only [aop, callA_d]
  case defer f as => exact absurd rfl (hop f as)
  case store n a v =>
    cases nlO s.t v with
    | none => rfl
    | some x =>
      simp only [writeA_d]
      cases writeA s n (evalO s.t a) x <;> rfl
  case allocL => rfl
  case allocH => rfl
  case mkMap => rfl
  case lenC => rfl
  all_goals (try simp only [ok1, okH, readA, newLoc, cond_eq_ite])
  all_goals (repeat' split)
  all_goals (first | rfl | (simp_all; done) | skip)

/-- The boxes: not looked at. -/
theorem aop_l (C : Oracle) (s : St) (op : AOp) (l1 : Tr Box) (hk : (kinds s op).2 = 0) : aop C { s with l := l1 } op = (aop C s op).map fun p => (p.1, { p.2 with l := l1 }) := by
  cases op <;> simp only [aop, callA_l]
  case defer f as => simp [kinds] at hk
  case boxL => simp [kinds] at hk
  case store n a v =>
    simp only [kinds] at hk
    cases nlO s.t v with
    | none => rfl
    | some x =>
      simp only [writeA, cond_eq_ite]
      generalize evalO s.t a = u at hk ⊢
      cases u <;> simp at hk <;> (repeat' split) <;> (first | rfl | (simp only [okU]; generalize putAt _ _ _ = q; cases q <;> rfl) | (simp_all; done) | skip)
  case load g n a =>
    simp only [kinds] at hk
    generalize evalO s.t a = u at hk ⊢
    cases u <;> simp at hk <;> simp only [readA, ok1] <;> (repeat' split) <;> (first | rfl | (simp_all; done) | skip)
  case fieldAddr off x d =>
    simp only [kinds] at hk
    generalize evalO s.t x = u at hk ⊢
    cases u <;> simp at hk <;> rfl
  case indexAddrArr len esz x i d =>
    simp only [kinds] at hk
    generalize evalO s.t x = u at hk ⊢
    cases natOf (evalO s.t i) <;> cases u <;> simp at hk <;> simp only [cond_eq_ite] <;> (repeat' split) <;> rfl
  case allocL => simp [kinds] at hk
  case allocH => rfl
  case mkMap => rfl
  case lenC => rfl
  all_goals (try simp only [ok1, okH, cond_eq_ite])
  all_goals (repeat' split)
  all_goals (first | rfl | (simp_all; done) | skip)

/-- The heap: not looked at. -/
theorem aop_h (C : Oracle) (s : St) (op : AOp) (h1 : AHeap) (hk : (kinds s op).1 = 0) : aop C { s with h := h1 } op = (aop C s op).map fun p => (p.1, { p.2 with h := h1 }) := by
  cases op <;> simp only [aop]
  case store n a v =>
    simp only [kinds] at hk
    cases nlO s.t v with
    | none => rfl
    | some x =>
      simp only [writeA, cond_eq_ite]
      generalize evalO s.t a = u at hk ⊢
      cases u <;> simp at hk <;> (repeat' split) <;> (first | rfl | (simp only [okU]; generalize putAt _ _ _ = q; cases q <;> rfl) | (simp_all; done) | skip)
  case load g n a =>
    simp only [kinds] at hk
    generalize evalO s.t a = u at hk ⊢
    cases u <;> simp at hk <;> simp only [readA, ok1] <;> (repeat' split) <;> (first | rfl | (simp_all; done) | skip)
  case call pu f as => cases pu <;> simp [kinds] at hk
  case allocL => rfl
  case lenC => rfl
  all_goals (first | (simp [kinds] at hk; done) | skip)
  all_goals (try simp only [ok1, newLoc, cond_eq_ite])
  all_goals (repeat' split)
  all_goals (first | rfl | (simp_all; done) | skip)

/-- The temporaries that are wiped. -/
def clears (s : St) : AOp → List Nat
  | .allocL _ _ d _ | .boxL _ _ d _ => d :: oldDer s.l d
  | _ => []

theorem evalO_t {s : St} {t1 : Tr AVal} {x : AOpd} (h : ∀ k ∈ tmpO x, t1.get k = s.t.get k) : evalO t1 x = evalO s.t x := by
  cases x <;> simp [evalO, tmpO] at h ⊢; rw [h]
theorem nlO_t {s : St} {t1 : Tr AVal} {x : AOpd} (h : ∀ k ∈ tmpO x, t1.get k = s.t.get k) : nlO t1 x = nlO s.t x := by
  unfold nlO; rw [evalO_t h]
theorem nlAll_t {s : St} {t1 : Tr AVal} : ∀ {xs : List AOpd}, (∀ k ∈ tmpL xs, t1.get k = s.t.get k) → nlAll t1 xs = nlAll s.t xs
  | [], _ => rfl
  | x :: xs, h => by
    have h1 := nlO_t (x := x) fun k hk => h k (by simp only [tmpL, List.flatMap_cons, List.mem_append]; exact .inl hk)
    have h2 := nlAll_t (xs := xs) fun k hk => h k (by simp only [tmpL, List.flatMap_cons, List.mem_append] at hk ⊢; exact .inr hk)
    unfold nlAll; rw [h1, h2]
theorem fillP_t {s : St} {t1 : Tr AVal} : ∀ {ps : List (Nat × Nat × AOpd)} {cs : List AVal}, (∀ k ∈ tmpP ps, t1.get k = s.t.get k) → fillP t1 ps cs = fillP s.t ps cs
  | [], _, _ => rfl
  | (o, n, x) :: ps, cs, h => by
    have h1 := nlO_t (x := x) fun k hk => h k (by simp only [tmpP, List.flatMap_cons, List.mem_append]; exact .inl hk)
    have h2 : ∀ cs, fillP t1 ps cs = fillP s.t ps cs := fun cs => fillP_t (ps := ps) fun k hk => h k (by simp only [tmpP, List.flatMap_cons, List.mem_append] at hk ⊢; exact .inr hk)
    unfold fillP; rw [h1]; simp only [h2]
theorem boundsA_t {s : St} {t1 : Tr AVal} {n m : Nat} {lo hi mx : Option AOpd} (h1 : ∀ k ∈ tmpOO lo, t1.get k = s.t.get k) (h2 : ∀ k ∈ tmpOO hi, t1.get k = s.t.get k) (h3 : ∀ k ∈ tmpOO mx, t1.get k = s.t.get k) : boundsA t1 n m lo hi mx = boundsA s.t n m lo hi mx := by
  cases lo <;> cases hi <;> cases mx <;> simp only [tmpOO] at h1 h2 h3 <;> unfold boundsA <;> (try simp only [evalO_t h1]) <;> (try simp only [evalO_t h2]) <;> (try simp only [evalO_t h3]) <;> (try rfl)

/-- The temporaries: only those that are read are looked at. -/
theorem aop_t (C : Oracle) (s : St) (op : AOp) (t1 : Tr AVal) (h : ∀ k ∈ reads op, t1.get k = s.t.get k) : aop C { s with t := t1 } op = (aop C s op).map fun p => (p.1, { p.2 with t := clearT (clears s op) t1 }) := by
  have app : ∀ {a b : List Nat}, (∀ k ∈ a ++ b, t1.get k = s.t.get k) → (∀ k ∈ a, t1.get k = s.t.get k) ∧ ∀ k ∈ b, t1.get k = s.t.get k := fun h => ⟨fun k hk => h k (List.mem_append.2 (.inl hk)), fun k hk => h k (List.mem_append.2 (.inr hk))⟩
  cases op <;> simp only [reads] at h <;> simp only [aop, callA_t, clears, clearT]
  case store n a v =>
    obtain ⟨h1, h2⟩ := app h
    rw [nlO_t h2, evalO_t h1]
    cases nlO s.t v with
    | none => rfl
    | some x =>
      simp only [writeA_t]
      cases writeA s n (evalO s.t a) x <;> rfl
  case boxL x der d n =>
    rw [nlO_t h]
    cases nlO s.t x with
    | none => rfl
    | some v => simp only [cond_eq_ite]; split <;> rfl
  case allocL => rfl
  case allocH => rfl
  case mkMap => rfl
  case lenC => rfl
  case build z ps => rw [fillP_t h]; split <;> rfl
  case buildSlice ty e n z ps => rw [fillP_t h]; split <;> rfl
  case buildImm e n z ps => rw [fillP_t h]; split <;> (try simp only [cond_eq_ite]) <;> (repeat' split) <;> rfl
  case mx xs => rw [nlAll_t h]; (repeat' split) <;> (first | rfl | (simp only [ok1]; repeat' split) <;> rfl)
  case mn xs => rw [nlAll_t h]; (repeat' split) <;> (first | rfl | (simp only [ok1]; repeat' split) <;> rfl)
  case call pu f as =>
    obtain ⟨h1, h2⟩ := app h
    rw [nlAll_t h2, evalO_t h1]
    cases nlAll s.t as with
    | none => rfl
    | some vs => simp only []; cases callA C s (evalO s.t f) vs <;> cases pu <;> rfl
  case defer f as =>
    obtain ⟨h1, h2⟩ := app h
    rw [nlAll_t h2, nlO_t h1]
    (repeat' split) <;> rfl
  case mkFunc fn f c =>
    obtain ⟨h1, h2⟩ := app h
    rw [nlAll_t h1, nlAll_t h2]
    (repeat' split) <;> rfl
  case sliceStr x l hi =>
    obtain ⟨h12, h3⟩ := app h
    obtain ⟨h1, h2⟩ := app h12
    rw [evalO_t h1]
    split
    · rw [boundsA_t h2 h3 (by simp [tmpOO])]; split <;> rfl
    · rfl
  case sliceSl e x l hi mx =>
    obtain ⟨h123, h4⟩ := app h
    obtain ⟨h12, h3⟩ := app h123
    obtain ⟨h1, h2⟩ := app h12
    rw [evalO_t h1]
    have : sliceSlA e (evalO s.t x) t1 l hi mx = sliceSlA e (evalO s.t x) s.t l hi mx := by
      simp only [sliceSlA, boundsA_t h2 h3 h4]
    rw [this]
    cases sliceSlA e (evalO s.t x) s.t l hi mx <;> rfl
  case sliceArr m e x l hi mx =>
    obtain ⟨h123, h4⟩ := app h
    obtain ⟨h12, h3⟩ := app h123
    obtain ⟨h1, h2⟩ := app h12
    rw [evalO_t h1]
    have : sliceArrA m e (evalO s.t x) s.h t1 l hi mx = sliceArrA m e (evalO s.t x) s.h s.t l hi mx := by
      simp only [sliceArrA, boundsA_t h2 h3 h4]
    rw [this]
    cases sliceArrA m e (evalO s.t x) s.h s.t l hi mx <;> rfl
  all_goals (first
    | simp only [evalO_t h, nlO_t h]
    | (obtain ⟨h12, h3⟩ := app h; obtain ⟨h1, h2⟩ := app h12; simp only [evalO_t h1, evalO_t h2, nlO_t h2, nlO_t h3])
    | (obtain ⟨h1, h2⟩ := app h; simp only [evalO_t h1, evalO_t h2, nlO_t h1, nlO_t h2]))
  all_goals (try simp only [ok1, okH, readA, cond_eq_ite])
  all_goals (repeat' split)
  all_goals (first | rfl | (simp_all; done) | skip)
end Wab
/- What an operation turns. -/
namespace Wab
open Go

theorem ok1_s {s s' : St} {v : Option AVal} {z : AVal} (h : ok1 s v = some (z, s')) : s' = s := (ok1_some h).2

/-- What looks at the heap alone turns nothing. -/
theorem look_h {C : Oracle} {s s' : St} {op : AOp} {z : AVal} (hk : (kinds s op).1 = 1) (hz : aop C s op = some (z, s')) : s' = s := by
  cases op <;> simp only [aop] at hz
  case load g n a => exact ok1_s hz
  case len k x => exact ok1_s hz
  case sliceArr => exact ok1_s hz
  case bin op k x y =>
    split at hz
    · exact ok1_s hz
    · cases hz
  case call pu f as =>
    cases pu with
    | false => simp [kinds] at hk
    | true =>
      split at hz
      · split at hz
        · injection hz with hz; injection hz with _ e; exact e.symm
        · cases hz
      · cases hz
  case lookup kt zero x k ok =>
    (repeat' split at hz) <;> first | (injection hz with hz; injection hz with _ e; exact e.symm) | cases hz
  case convStr x =>
    (repeat' split at hz) <;> first | (injection hz with hz; injection hz with _ e; exact e.symm) | cases hz
  case convUP x =>
    simp only [cond_eq_ite] at hz
    (repeat' split at hz) <;> first | (injection hz with hz; injection hz with _ e; exact e.symm) | cases hz
  case convPU ty n x =>
    simp only [cond_eq_ite] at hz
    (repeat' split at hz) <;> first | (injection hz with hz; injection hz with _ e; exact e.symm) | cases hz
  case store n a v =>
    simp only [kinds] at hk
    split at hk <;> cases hk
  case fieldAddr off x d =>
    simp only [kinds] at hk
    split at hk <;> cases hk
  case indexAddrArr len esz x i d =>
    simp only [kinds] at hk
    split at hk <;> cases hk
  all_goals (simp [kinds] at hk)

/-- What looks at the boxes alone turns nothing. -/
theorem look_l {C : Oracle} {s s' : St} {op : AOp} {z : AVal} (hk : (kinds s op).2 = 1) (hz : aop C s op = some (z, s')) : s' = s := by
  cases op <;> simp only [aop] at hz
  case load g n a => exact ok1_s hz
  case fieldAddr off x d =>
    simp only [cond_eq_ite] at hz
    (repeat' split at hz) <;> first | (injection hz with hz; injection hz with _ e; exact e.symm) | cases hz
  case indexAddrArr len esz x i d =>
    simp only [cond_eq_ite] at hz
    (repeat' split at hz) <;> first | (injection hz with hz; injection hz with _ e; exact e.symm) | cases hz
  case store n a v =>
    simp only [kinds] at hk
    split at hk <;> cases hk
  case call pu f as => cases pu <;> simp [kinds] at hk
  all_goals (simp [kinds] at hk)

theorem map_self {α β : Type} {r : Option (α × β)} {f : β → β} {v : α} {s : β} (h : r = r.map fun p => (p.1, f p.2)) (hr : r = some (v, s)) : s = f s := by
  rw [hr] at h
  simp only [Option.map_some, Option.some.injEq, Prod.mk.injEq, true_and] at h
  exact h

theorem kinds_le (s : St) (op : AOp) : (kinds s op).1 ≤ 2 ∧ (kinds s op).2 ≤ 2 := by
  cases op <;> simp only [kinds]
  case call pu f as => cases pu <;> decide
  all_goals (repeat' split)
  all_goals decide

/-- What an operation turns. -/
theorem shape {C : Oracle} {s s' : St} {op : AOp} {z : AVal} (hz : aop C s op = some (z, s')) :
    s'.t = clearT (clears s op) s.t ∧ ((kinds s op).1 ≠ 2 → s'.h = s.h) ∧ ((kinds s op).2 ≠ 2 → s'.l = s.l) ∧ ((∀ f as, op ≠ .defer f as) → s'.d = s.d) := by
  have ht := map_self (f := fun p => { p with t := clearT (clears s op) s.t }) (aop_t C s op s.t fun _ _ => rfl) hz
  refine ⟨by rw [ht], fun hk => ?_, fun hk => ?_, fun hd => ?_⟩
  · have : (kinds s op).1 = 0 ∨ (kinds s op).1 = 1 := by
      have := (kinds_le s op).1; omega
    rcases this with h | h
    · have := map_self (f := fun p => { p with h := s.h }) (aop_h C s op s.h h) hz
      rw [this]
    · rw [look_h h hz]
  · have : (kinds s op).2 = 0 ∨ (kinds s op).2 = 1 := by
      have := (kinds_le s op).2; omega
    rcases this with h | h
    · have := map_self (f := fun p => { p with l := s.l }) (aop_l C s op s.l h) hz
      rw [this]
    · rw [look_l h hz]
  · have := map_self (f := fun p => { p with d := s.d }) (aop_d C s op s.d hd) hz
    rw [this]
end Wab
/- An operation at another time. -/
namespace Wab
open Go

theorem nb {a b : Nat} (h : Nat.beq a b = true) : a = b := Nat.eq_of_beq_eq_true h

mutual
theorem beq_eq : ∀ (x y : AVal), AVal.beq x y = true → x = y
  | .iptr x a, .iptr y b, h => by
    simp only [AVal.beq, Bool.and_eq_true] at h
    rw [beqs_eq x y h.1, nb h.2]
  | .imm a x c, .imm b y d, h => by
    simp only [AVal.beq, Bool.and_eq_true] at h
    rw [nb h.1.1, beqss_eq x y h.1.2, eq_of_beq h.2]
  | .func f a b, .func g c d, h => by
    simp only [AVal.beq, Bool.and_eq_true, decide_eq_true_eq] at h
    rw [h.1.1, beqs_eq a c h.1.2, beqs_eq b d h.2]
  | .iface t x, .iface u y, h => by
    simp only [AVal.beq, Bool.and_eq_true] at h
    rw [nb h.1, beq_eq x y h.2]
  | .agg a, .agg b, h => by
    simp only [AVal.beq] at h
    rw [beqs_eq a b h]
  | .tup a, .tup b, h => by
    simp only [AVal.beq] at h
    rw [beqs_eq a b h]
  | .bool a, y, h => by cases y <;> simp [AVal.beq] at h; rw [h]
  | .int j a, y, h => by cases y <;> simp [AVal.beq] at h; rw [h.1, h.2]
  | .str a, y, h => by cases y <;> simp [AVal.beq] at h; rw [h]
  | .ptr a b c, y, h => by cases y <;> simp only [AVal.beq, Bool.and_eq_true] at h <;> first | cases h; done | (rw [nb h.1.1, nb h.1.2, nb h.2]) | (exact absurd h (by simp))
  | .gptr a b, y, h => by cases y <;> simp only [AVal.beq, Bool.and_eq_true] at h <;> first | cases h; done | (rw [nb h.1, nb h.2]) | (exact absurd h (by simp))
  | .loc a b, y, h => by cases y <;> simp only [AVal.beq, Bool.and_eq_true] at h <;> first | cases h; done | (rw [nb h.1, nb h.2]) | (exact absurd h (by simp))
  | .sl a b c d e f, y, h => by cases y <;> simp only [AVal.beq, Bool.and_eq_true, decide_eq_true_eq] at h <;> first | cases h; done | (rw [nb h.1.1.1.1.1, nb h.1.1.1.1.2, nb h.1.1.1.2, nb h.1.1.2, h.1.2, nb h.2]) | (exact absurd h (by simp))
  | .mp a, y, h => by cases y <;> simp only [AVal.beq] at h <;> first | cases h; done | (rw [nb h]) | (exact absurd h (by simp))
  | .dead, y, h => by cases y <;> simp [AVal.beq] at h; rfl
  | .nilp, y, h => by cases y <;> simp [AVal.beq] at h; rfl
  | .nils, y, h => by cases y <;> simp [AVal.beq] at h; rfl
  | .nilm, y, h => by cases y <;> simp [AVal.beq] at h; rfl
  | .nilf, y, h => by cases y <;> simp [AVal.beq] at h; rfl
  | .nili, y, h => by cases y <;> simp [AVal.beq] at h; rfl
theorem beqs_eq : ∀ (x y : List AVal), AVal.beqs x y = true → x = y
  | [], [], _ => rfl
  | [], _ :: _, h => by simp [AVal.beqs] at h
  | _ :: _, [], h => by simp [AVal.beqs] at h
  | x :: xs, y :: ys, h => by
    simp only [AVal.beqs, Bool.and_eq_true] at h
    rw [beq_eq x y h.1, beqs_eq xs ys h.2]
theorem beqss_eq : ∀ (x y : List (List AVal)), AVal.beqss x y = true → x = y
  | [], [], _ => rfl
  | [], _ :: _, h => by simp [AVal.beqss] at h
  | _ :: _, [], h => by simp [AVal.beqss] at h
  | x :: xs, y :: ys, h => by
    simp only [AVal.beqss, Bool.and_eq_true] at h
    rw [beqs_eq x y h.1, beqss_eq xs ys h.2]
end

theorem sameV_some {r : Option (AVal × St)} {v : AVal} (h : sameV r v = true) : ∃ s, r = some (v, s) := by
  unfold sameV at h
  split at h
  · rename_i w s
    exact ⟨s, by rw [beq_eq w v h]⟩
  · cases h

theorem kinds_apart (s : St) (op : AOp) : (kinds s op).2 = 1 → (kinds s op).1 = 0 := by
  cases op <;> simp only [kinds]
  case call pu f as => cases pu <;> simp
  all_goals (repeat' split)
  all_goals simp

theorem clears_l (s : St) (op : AOp) (l1 : Tr Box) (h : (kinds s op).2 = 2 → l1 = s.l) (h1 : AHeap) (d1 : List (AVal × List AVal)) : clears { s with h := h1, l := l1, d := d1 } op = clears s op := by
  cases op <;> simp only [clears]
  case allocL => rw [h rfl]
  case boxL => rw [h rfl]

/-- An operation at another time. -/
theorem exec {C : Oracle} {s s' s1 : St} {op : AOp} {v : AVal} (hz : aop C s op = some (v, s')) (ht : ∀ k ∈ reads op, s1.t.get k = s.t.get k)
    (h2 : (kinds s op).1 = 2 → s1.h = s.h) (h1 : (kinds s op).1 = 1 → sameV (aop C { s with h := s1.h } op) v = true) (l2 : (kinds s op).2 = 2 → s1.l = s.l) (l1 : (kinds s op).2 = 1 → sameV (aop C { s with l := s1.l } op) v = true)
    (hd : ∀ f as, op ≠ .defer f as) :
    aop C s1 op = some (v, { t := clearT (clears s op) s1.t, h := if (kinds s op).1 = 2 then s'.h else s1.h, l := if (kinds s op).2 = 2 then s'.l else s1.l, d := s1.d }) := by
  obtain ⟨z1, z2, z3, z4⟩ := shape hz
  -- the heap
  have e1 : aop C { s with h := s1.h } op = some (v, { s' with h := if (kinds s op).1 = 2 then s'.h else s1.h }) := by
    rcases (show (kinds s op).1 = 0 ∨ (kinds s op).1 = 1 ∨ (kinds s op).1 = 2 from by have := (kinds_le s op).1; omega) with h | h | h
    · rw [aop_h C s op s1.h h, hz, if_neg (by omega)]; rfl
    · obtain ⟨s2, e⟩ := sameV_some (h1 h)
      have e2 := look_h (s := { s with h := s1.h }) (by exact h) e
      have e3 := look_h h hz
      rw [e, e2, if_neg (by omega), e3]
    · rw [if_pos h, h2 h]; exact hz
  -- the boxes
  have e2 : aop C { s with h := s1.h, l := s1.l } op = some (v, { s' with h := if (kinds s op).1 = 2 then s'.h else s1.h, l := if (kinds s op).2 = 2 then s'.l else s1.l }) := by
    rcases (show (kinds s op).2 = 0 ∨ (kinds s op).2 = 1 ∨ (kinds s op).2 = 2 from by have := (kinds_le s op).2; omega) with h | h | h
    · have := aop_l C { s with h := s1.h } op s1.l h
      rw [e1] at this
      rw [if_neg (show ¬ (kinds s op).2 = 2 by omega)]
      exact this
    · obtain ⟨s2, e⟩ := sameV_some (l1 h)
      have q2 := look_l (s := { s with l := s1.l }) (by exact h) e
      have q3 := look_l h hz
      have k0 := kinds_apart s op h
      have := aop_h C { s with l := s1.l } op s1.h k0
      rw [e, q2] at this
      rw [if_neg (show ¬ (kinds s op).2 = 2 by omega), if_neg (show ¬ (kinds s op).1 = 2 by omega), q3]
      exact this
    · rw [if_pos h, l2 h]
      exact e1
  -- the deferred calls
  have e3 := aop_d C { s with h := s1.h, l := s1.l } op s1.d hd
  rw [e2] at e3
  have e4 := aop_t C { s with h := s1.h, l := s1.l, d := s1.d } op s1.t ht
  rw [clears_l s op s1.l l2] at e4
  have e5 : aop C { s with h := s1.h, l := s1.l, d := s1.d } op = some (v, { s' with h := if (kinds s op).1 = 2 then s'.h else s1.h, l := if (kinds s op).2 = 2 then s'.l else s1.l, d := s1.d }) := e3
  rw [e5] at e4
  exact e4

theorem ins_fuel {α : Type} : ∀ (f g : Nat) (t : Tr α) (k : Nat) (x : Option α), k < f → k < g → t.ins f k x = t.ins g k x
  | 0, _, _, _, _, h, _ => by omega
  | _ + 1, 0, _, _, _, _, h => by omega
  | f + 1, g + 1, .lf, k, x, h1, h2 => by
    simp only [Tr.ins]
    by_cases h0 : k = 0
    · subst h0; rfl
    · rw [ins_fuel f g .lf (k / 2) x (by omega) (by omega), ins_fuel f g .lf (k / 2 - 1) x (by omega) (by omega)]
  | f + 1, g + 1, .nd v l r, k, x, h1, h2 => by
    simp only [Tr.ins]
    by_cases h0 : k = 0
    · subst h0; rfl
    · rw [ins_fuel f g l (k / 2) x (by omega) (by omega), ins_fuel f g r (k / 2 - 1) x (by omega) (by omega)]
end Wab
/- The tree's writes at two places may be exchanged. -/
namespace Wab
open Go

theorem ins_lf {α : Type} (f k : Nat) (x : Option α) : (Tr.lf : Tr α).ins (f + 1) k x = (Tr.nd none .lf .lf).ins (f + 1) k x := rfl

theorem ins_zero {α : Type} (f : Nat) (v : Option α) (l r : Tr α) (x : Option α) : (Tr.nd v l r).ins (f + 1) 0 x = .nd x l r := rfl
theorem ins_odd {α : Type} (f k : Nat) (v : Option α) (l r : Tr α) (x : Option α) (h : k % 2 = 1) : (Tr.nd v l r).ins (f + 1) k x = .nd v (l.ins f (k / 2) x) r := by
  have h0 : Nat.beq k 0 = false := by cases hb : Nat.beq k 0 with | false => rfl | true => have := nb hb; omega
  have h1 : Nat.beq (k % 2) 1 = true := by rw [h]; rfl
  simp only [Tr.ins, h0, h1, cond_true, cond_false]
theorem ins_even {α : Type} (f k : Nat) (v : Option α) (l r : Tr α) (x : Option α) (h : k % 2 = 0) (hk : k ≠ 0) : (Tr.nd v l r).ins (f + 1) k x = .nd v l (r.ins f (k / 2 - 1) x) := by
  have h0 : Nat.beq k 0 = false := by cases hb : Nat.beq k 0 with | false => rfl | true => have := nb hb; omega
  have h1 : Nat.beq (k % 2) 1 = false := by rw [h]; rfl
  simp only [Tr.ins, h0, h1, cond_false]

theorem ins_comm {α : Type} : ∀ (f : Nat) (t : Tr α) (i j : Nat) (a b : Option α), i < f → j < f → i ≠ j → (t.ins f i a).ins f j b = (t.ins f j b).ins f i a
  | 0, _, _, _, _, _, h, _, _ => by omega
  | f + 1, .lf, i, j, a, b, h1, h2, hne => by
    rw [ins_lf, ins_lf f j]
    exact ins_comm_nd f none .lf .lf i j a b h1 h2 hne
  | f + 1, .nd v l r, i, j, a, b, h1, h2, hne => ins_comm_nd f v l r i j a b h1 h2 hne
where
  ins_comm_nd {α : Type} (f : Nat) (v : Option α) (l r : Tr α) (i j : Nat) (a b : Option α) (h1 : i < f + 1) (h2 : j < f + 1) (hne : i ≠ j) : ((Tr.nd v l r).ins (f + 1) i a).ins (f + 1) j b = ((Tr.nd v l r).ins (f + 1) j b).ins (f + 1) i a := by
    rcases (show i = 0 ∨ i % 2 = 1 ∨ (i % 2 = 0 ∧ i ≠ 0) by omega) with rfl | hi | ⟨hi, hi0⟩
    · rcases (show j % 2 = 1 ∨ (j % 2 = 0 ∧ j ≠ 0) by omega) with hj | ⟨hj, hj0⟩
      · rw [ins_zero, ins_odd _ _ _ _ _ _ hj, ins_odd _ _ _ _ _ _ hj, ins_zero]
      · rw [ins_zero, ins_even _ _ _ _ _ _ hj hj0, ins_even _ _ _ _ _ _ hj hj0, ins_zero]
    · rcases (show j = 0 ∨ j % 2 = 1 ∨ (j % 2 = 0 ∧ j ≠ 0) by omega) with rfl | hj | ⟨hj, hj0⟩
      · rw [ins_zero, ins_odd _ _ _ _ _ _ hi, ins_odd _ _ _ _ _ _ hi, ins_zero]
      · rw [ins_odd _ _ _ _ _ _ hi, ins_odd _ _ _ _ _ _ hj, ins_odd _ _ _ _ _ _ hj, ins_odd _ _ _ _ _ _ hi, ins_comm f l (i / 2) (j / 2) a b (by omega) (by omega) (by omega)]
      · rw [ins_odd _ _ _ _ _ _ hi, ins_even _ _ _ _ _ _ hj hj0, ins_even _ _ _ _ _ _ hj hj0, ins_odd _ _ _ _ _ _ hi]
    · rcases (show j = 0 ∨ j % 2 = 1 ∨ (j % 2 = 0 ∧ j ≠ 0) by omega) with rfl | hj | ⟨hj, hj0⟩
      · rw [ins_zero, ins_even _ _ _ _ _ _ hi hi0, ins_even _ _ _ _ _ _ hi hi0, ins_zero]
      · rw [ins_even _ _ _ _ _ _ hi hi0, ins_odd _ _ _ _ _ _ hj, ins_odd _ _ _ _ _ _ hj, ins_even _ _ _ _ _ _ hi hi0]
      · rw [ins_even _ _ _ _ _ _ hi hi0, ins_even _ _ _ _ _ _ hj hj0, ins_even _ _ _ _ _ _ hj hj0, ins_even _ _ _ _ _ _ hi hi0, ins_comm f r (i / 2 - 1) (j / 2 - 1) a b (by omega) (by omega) (by omega)]

theorem set_comm {α : Type} (t : Tr α) (i j : Nat) (a b : Option α) (h : i ≠ j) : (t.set i a).set j b = (t.set j b).set i a := by
  unfold Tr.set
  rw [ins_fuel (j + 1) (i + j + 1) _ j b (by omega) (by omega), ins_fuel (i + 1) (i + j + 1) t i a (by omega) (by omega), ins_fuel (i + 1) (i + j + 1) _ i a (by omega) (by omega), ins_fuel (j + 1) (i + j + 1) t j b (by omega) (by omega)]
  exact ins_comm _ t i j a b (by omega) (by omega) h

theorem clearT_set {_α : Type} : True := trivial

theorem clearT_comm (ks : List Nat) (t : Tr AVal) (j : Nat) (b : Option AVal) (h : j ∉ ks) : clearT ks (t.set j b) = (clearT ks t).set j b := by
  induction ks generalizing t with
  | nil => rfl
  | cons k ks ih =>
    simp only [clearT]
    have h1 : j ≠ k := fun e => h (by rw [e]; exact List.mem_cons_self)
    have h2 : j ∉ ks := fun e => h (List.mem_cons_of_mem _ e)
    rw [set_comm t j k b _ h1, ih _ h2]

theorem clearT_clearT (ks js : List Nat) (t : Tr AVal) (h : ∀ k ∈ ks, k ∉ js) : clearT ks (clearT js t) = clearT js (clearT ks t) := by
  induction ks generalizing t with
  | nil => rfl
  | cons k ks ih =>
    simp only [clearT]
    rw [← clearT_comm js t k _ (h k List.mem_cons_self), ih _ fun x hx => h x (List.mem_cons_of_mem _ hx)]
end Wab
/- Drawn regions: the operations of a run as effects. -/
namespace Wab
open Go

def isDefer : AOp → Bool
  | .defer _ _ => true
  | _ => false

/-- The heap, behind an operation of a drawn run. -/
def effH (base : Nat) (r : Rec) (h : AHeap) : AHeap :=
  match r.o.op with
  | .allocH ty z => h.put (base + r.i) (.cells 0 ty z 0 false)
  | .boxH ty x => match nlO r.s.t x with
    | some v => h.put (base + r.i) (.cells 0 ty v.cells 0 false)
    | none => h
  | op => if (kinds r.s op).1 = 2 then r.s'.h else h

/-- An operation of a drawn run, at whatever state. -/
def eff (base : Nat) (r : Rec) (s : St) : St :=
  if r.w = true then
    ({ t := clearT (clears r.s r.o.op) s.t, h := effH base r s.h, l := if (kinds r.s r.o.op).2 = 2 then r.s'.l else s.l, d := if isDefer r.o.op = true then r.s'.d else s.d } : St).put r.o.dst r.v
  else s.put r.o.dst noRes

/-- A record tells what came. -/
def RecOk (C : Oracle) (base : Nat) (r : Rec) : Prop :=
  if r.w = true then guardA r.s.t r.o.guard = some true ∧ aopD C (base + r.i) r.s r.o.op = some (r.v, r.s')
  else guardA r.s.t r.o.guard = some false ∧ r.v = noRes ∧ r.s' = r.s

theorem kindsR_plain {r : Rec} (hw : r.w = true) (n1 : ∀ ty z, r.o.op ≠ .allocH ty z) (n2 : ∀ ty x, r.o.op ≠ .boxH ty x) : kindsR r = kinds r.s r.o.op := by
  unfold kindsR
  rw [hw]
  cases h : r.o.op <;> first | rfl | exact absurd h (n1 _ _) | exact absurd h (n2 _ _)

theorem aopD_plain {C : Oracle} {id : Nat} {s : St} {op : AOp} (n1 : ∀ ty z, op ≠ .allocH ty z) (n2 : ∀ ty x, op ≠ .boxH ty x) : aopD C id s op = aop C s op := by
  cases op <;> first | rfl | exact absurd rfl (n1 _ _) | exact absurd rfl (n2 _ _)

theorem effH_plain {base : Nat} {r : Rec} {h : AHeap} (n1 : ∀ ty z, r.o.op ≠ .allocH ty z) (n2 : ∀ ty x, r.o.op ≠ .boxH ty x) : effH base r h = if (kinds r.s r.o.op).1 = 2 then r.s'.h else h := by
  unfold effH
  cases hh : r.o.op <;> first | rfl | exact absurd hh (n1 _ _) | exact absurd hh (n2 _ _)

/-- A new variable's place is free. -/
theorem free_of {C : Oracle} {base : Nat} {r : Rec} (hr : RecOk C base r) (hw : r.w = true) (hk : (kindsR r).1 = 3) : freeId r.s.h (base + r.i) = true := by
  unfold RecOk at hr
  rw [if_pos hw] at hr
  obtain ⟨_, hr⟩ := hr
  by_cases c1 : ∃ ty z, r.o.op = .allocH ty z
  · obtain ⟨ty, z, c1⟩ := c1
    rw [c1] at hr
    simp only [aopD] at hr
    cases hf : freeId r.s.h (base + r.i) with
    | true => rfl
    | false => rw [hf] at hr; cases hr
  · by_cases c2 : ∃ ty x, r.o.op = .boxH ty x
    · obtain ⟨ty, x, c2⟩ := c2
      rw [c2] at hr
      simp only [aopD] at hr
      cases hf : freeId r.s.h (base + r.i) with
      | true => rfl
      | false =>
        rw [hf] at hr
        split at hr
        · simp at hr
        · cases hr
    · rw [kindsR_plain hw (fun ty z e => c1 ⟨ty, z, e⟩) (fun ty x e => c2 ⟨ty, x, e⟩)] at hk
      have := (kinds_le r.s r.o.op).1; omega

/-- What a drawn run does at another time. -/
theorem execD {C : Oracle} {base : Nat} {r : Rec} {s1 : St} (hr : RecOk C base r) (hw : r.w = true) (ht : ∀ k ∈ reads r.o.op, s1.t.get k = r.s.t.get k)
    (h2 : (kindsR r).1 = 2 → s1.h = r.s.h) (h1 : (kindsR r).1 = 1 → sameV (aop C { r.s with h := s1.h } r.o.op) r.v = true) (l2 : (kindsR r).2 = 2 → s1.l = r.s.l) (l1 : (kindsR r).2 = 1 → sameV (aop C { r.s with l := s1.l } r.o.op) r.v = true)
    (hd : isDefer r.o.op = true → s1.d = r.s.d) (h3 : (kindsR r).1 = 3 → freeId s1.h (base + r.i) = true) :
    ∃ s1', aopD C (base + r.i) s1 r.o.op = some (r.v, s1') ∧ s1'.put r.o.dst r.v = eff base r s1 := by
  unfold RecOk at hr
  rw [if_pos hw] at hr
  obtain ⟨_, hr⟩ := hr
  unfold eff
  rw [if_pos hw]
  by_cases c1 : ∃ ty z, r.o.op = .allocH ty z
  · obtain ⟨ty, z, c1⟩ := c1
    have k3 := h3 (by unfold kindsR; rw [hw, c1]; rfl)
    rw [c1] at hr ⊢
    simp only [aopD] at hr ⊢
    rw [k3]
    have k4 : freeId r.s.h (base + r.i) = true := by
      cases hk : freeId r.s.h (base + r.i) with
      | true => rfl
      | false => rw [hk] at hr; cases hr
    rw [k4] at hr
    simp only [cond_true, Option.some.injEq, Prod.mk.injEq] at hr ⊢
    refine ⟨_, ⟨hr.1, rfl⟩, ?_⟩
    simp only [clears, clearT, effH, c1, kinds, isDefer]
    rfl
  · by_cases c2 : ∃ ty x, r.o.op = .boxH ty x
    · obtain ⟨ty, x, c2⟩ := c2
      have k3 := h3 (by unfold kindsR; rw [hw, c2]; rfl)
      rw [c2] at hr ht ⊢
      simp only [aopD] at hr ⊢
      simp only [reads] at ht
      rw [nlO_t ht]
      split at hr
      · rename_i v hv
        cases ho : oneV v with
        | false => rw [ho] at hr; cases hr
        | true =>
          have k4 : freeId r.s.h (base + r.i) = true := by
            cases hk : freeId r.s.h (base + r.i) with
            | true => rfl
            | false => rw [ho, hk] at hr; cases hr
          rw [ho, k4] at hr
          simp only [Bool.and_self, cond_true, Option.some.injEq, Prod.mk.injEq] at hr
          refine ⟨{ s1 with h := s1.h.put (base + r.i) (.cells 0 ty v.cells 0 false) }, ?_, ?_⟩
          · simp only [k3, Bool.and_self, cond_true, Option.some.injEq, Prod.mk.injEq]; exact ⟨hr.1, trivial⟩
          · simp only [clears, clearT, effH, c2, kinds, isDefer, hv]
            rfl
      · cases hr
    · have n1 : ∀ ty z, r.o.op ≠ .allocH ty z := fun ty z e => c1 ⟨ty, z, e⟩
      have n2 : ∀ ty x, r.o.op ≠ .boxH ty x := fun ty x e => c2 ⟨ty, x, e⟩
      rw [kindsR_plain hw n1 n2] at h2 h1 l2 l1
      rw [aopD_plain n1 n2] at hr ⊢
      rw [effH_plain n1 n2]
      by_cases hdf : isDefer r.o.op = true
      · have e1 := hd hdf
        generalize hop : r.o.op = op at *
        cases op <;> simp [isDefer] at hdf
        rename_i f as
        have eh := h2 rfl
        have el := l2 rfl
        simp only [aop] at hr ⊢
        simp only [reads] at ht
        have ht1 : ∀ k ∈ tmpO f, s1.t.get k = r.s.t.get k := fun k hk => ht k (List.mem_append.2 (.inl hk))
        have ht2 : ∀ k ∈ tmpL as, s1.t.get k = r.s.t.get k := fun k hk => ht k (List.mem_append.2 (.inr hk))
        rw [nlO_t ht1, nlAll_t ht2]
        split at hr
        · rename_i fn x y vs q1 q2
          simp only [Option.some.injEq, Prod.mk.injEq] at hr
          obtain ⟨r1, r2⟩ := hr
          refine ⟨{ s1 with d := (.func fn x y, vs) :: s1.d }, by rw [← r1], ?_⟩
          rw [← r2]
          simp only [clears, clearT, kinds, isDefer, if_true, e1, eh, el]
        · cases hr
      · have hnd : ∀ f as, r.o.op ≠ .defer f as := fun f as e => hdf (by rw [e]; rfl)
        refine ⟨_, exec hr ht h2 h1 l2 l1 hnd, ?_⟩
        rw [if_neg hdf]
end Wab
/- Drawn regions: the state behind some of the operations. -/
namespace Wab
open Go

mutual
theorem beq_refl : ∀ x : AVal, AVal.beq x x = true
  | .iptr x a => by simp [AVal.beq, beqs_refl x]
  | .imm a x c => by simp [AVal.beq, beqss_refl x]
  | .func f a b => by simp [AVal.beq, beqs_refl a, beqs_refl b]
  | .iface t x => by simp [AVal.beq, beq_refl x]
  | .agg a => by simp [AVal.beq, beqs_refl a]
  | .tup a => by simp [AVal.beq, beqs_refl a]
  | .bool _ | .int _ _ | .str _ | .ptr _ _ _ | .gptr _ _ | .loc _ _ | .sl _ _ _ _ _ _ | .mp _ | .dead | .nilp | .nils | .nilm | .nilf | .nili => by simp [AVal.beq]
theorem beqs_refl : ∀ x : List AVal, AVal.beqs x x = true
  | [] => rfl
  | x :: xs => by simp [AVal.beqs, beq_refl x, beqs_refl xs]
theorem beqss_refl : ∀ x : List (List AVal), AVal.beqss x x = true
  | [] => rfl
  | x :: xs => by simp [AVal.beqss, beqs_refl x, beqss_refl xs]
end

/-- What comes behind a record. -/
def nxt (r : Rec) : St := if r.w = true then r.s'.put r.o.dst r.v else r.s.put r.o.dst noRes

/-- The state behind the operations of S. -/
def stS (base : Nat) (S : Nat → Bool) : List Rec → St → St
  | [], s => s
  | r :: rs, s => stS base S rs (if S r.i = true then eff base r s else s)

/-- A run, record by record. -/
def Chain (C : Oracle) (base : Nat) : List Rec → St → St → Prop
  | [], s, s' => s = s'
  | r :: rs, s, s' => r.s = s ∧ RecOk C base r ∧ Chain C base rs (nxt r) s'

theorem cut {α : Type} {base : Nat} (comp : St → α) (touch : Rec → Prop) (h : ∀ r s, ¬ touch r → comp (eff base r s) = comp s) (g : ∀ r s t, comp s = comp t → comp (eff base r s) = comp (eff base r t)) :
    ∀ (rs : List Rec) (s1 s2 : St) (S S' : Nat → Bool), comp s1 = comp s2 → (∀ r ∈ rs, touch r → S r.i = S' r.i) → comp (stS base S rs s1) = comp (stS base S' rs s2)
  | [], _, _, _, _, he, _ => he
  | r :: rs, s1, s2, S, S', he, hS => by
    simp only [stS]
    refine cut comp touch h g rs _ _ S S' ?_ fun q hq => hS q (List.mem_cons_of_mem _ hq)
    by_cases ht : touch r
    · rw [hS r List.mem_cons_self ht]
      by_cases hs : S' r.i = true
      · rw [if_pos hs, if_pos hs]; exact g r s1 s2 he
      · rw [if_neg hs, if_neg hs]; exact he
    · have e1 : comp (if S r.i = true then eff base r s1 else s1) = comp s1 := by split; exact h r s1 ht; rfl
      have e2 : comp (if S' r.i = true then eff base r s2 else s2) = comp s2 := by split; exact h r s2 ht; rfl
      rw [e1, e2, he]

/-- A record's effect, where it was. -/
theorem eff_self {C : Oracle} {base : Nat} {r : Rec} (hr : RecOk C base r) : eff base r r.s = nxt r := by
  by_cases hw : r.w = true
  · have same : ∀ v s', aop C r.s r.o.op = some (v, s') → sameV (aop C r.s r.o.op) v = true := fun v s' e => by rw [e]; exact beq_refl v
    have hr' := hr
    unfold RecOk at hr'
    rw [if_pos hw] at hr'
    have hk : (kindsR r).1 = 1 ∨ (kindsR r).2 = 1 → aop C r.s r.o.op = some (r.v, r.s') := fun hh => by
      rw [← aopD_plain (id := base + r.i)]
      · exact hr'.2
      · intro ty z e; unfold kindsR at hh; rw [hw, e] at hh; simp at hh
      · intro ty z e; unfold kindsR at hh; rw [hw, e] at hh; simp at hh
    obtain ⟨s1', e1, e2⟩ := execD hr hw (s1 := r.s) (fun _ _ => rfl) (fun _ => rfl) (fun h => same _ _ (hk (.inl h))) (fun _ => rfl) (fun h => same _ _ (hk (.inr h))) (fun _ => rfl) (free_of hr hw)
    rw [hr'.2] at e1
    injection e1 with e1; injection e1 with _ e1
    unfold nxt
    rw [if_pos hw, ← e2, e1]
  · unfold eff nxt
    rw [if_neg hw, if_neg hw]
end Wab
/- Drawn regions: a told run. -/
namespace Wab
open Go

theorem stS_none {base : Nat} {S : Nat → Bool} : ∀ (rs : List Rec) (s : St), (∀ r ∈ rs, S r.i = false) → stS base S rs s = s
  | [], _, _ => rfl
  | r :: rs, s, h => by
    simp only [stS]
    rw [h r List.mem_cons_self]
    exact stS_none rs s fun q hq => h q (List.mem_cons_of_mem _ hq)

theorem stS_all {C : Oracle} {base : Nat} : ∀ (rs : List Rec) (s s' : St) (S : Nat → Bool), Chain C base rs s s' → (∀ r ∈ rs, S r.i = true) → stS base S rs s = s'
  | [], _, _, _, h, _ => h
  | r :: rs, s, s', S, h, hS => by
    obtain ⟨h1, h2, h3⟩ := h
    simp only [stS]
    rw [if_pos (hS r List.mem_cons_self), ← h1, eff_self h2]
    exact stS_all rs _ s' S h3 fun q hq => hS q (List.mem_cons_of_mem _ hq)

/-- The places are one behind the other. -/
def Idx (i0 : Nat) (rs : List Rec) : Prop := ∀ k r, rs[k]? = some r → r.i = i0 + k

theorem Idx.tail {i0 : Nat} {r : Rec} {rs : List Rec} (h : Idx i0 (r :: rs)) : Idx (i0 + 1) rs := fun k q hq => by
  have := h (k + 1) q (by simpa using hq)
  omega

theorem Idx.mem {i0 : Nat} {rs : List Rec} (h : Idx i0 rs) {r : Rec} (hr : r ∈ rs) : i0 ≤ r.i ∧ r.i < i0 + rs.length := by
  obtain ⟨k, hk⟩ := List.getElem?_of_mem hr
  have h1 := h k r hk
  have h2 := (List.getElem?_eq_some_iff.1 hk).1
  omega

theorem stS_upto {C : Oracle} {base : Nat} : ∀ (rs : List Rec) (i0 : Nat) (s s' : St), Chain C base rs s s' → Idx i0 rs → ∀ k r, rs[k]? = some r → stS base (fun j => decide (j < i0 + k)) rs s = r.s
  | [], _, _, _, _, _, k, r, h => by simp at h
  | q :: rs, i0, s, s', h, hi, 0, r, hr => by
    simp at hr; subst hr
    rw [stS_none _ _ fun x hx => by
      have := (hi.mem hx).1
      simp; omega]
    exact h.1.symm
  | q :: rs, i0, s, s', h, hi, k + 1, r, hr => by
    obtain ⟨h1, h2, h3⟩ := h
    have hq : q.i = i0 := by have := hi 0 q rfl; omega
    simp only [stS]
    rw [if_pos (by rw [hq]; simp), ← h1, eff_self h2]
    have := stS_upto rs (i0 + 1) (nxt q) s' h3 hi.tail k r (by simpa using hr)
    rw [show i0 + 1 + k = i0 + (k + 1) from by omega] at this
    exact this

theorem arunT_chain {C : Oracle} {base : Nat} : ∀ (os : List AOper) (i0 : Nat) (s s' : St) (rs : List Rec), arunT C base i0 os s = some (rs, s') → Chain C base rs s s' ∧ rs.length = os.length ∧ ∀ k r, rs[k]? = some r → r.i = i0 + k ∧ os[k]? = some r.o
  | [], i0, s, s', rs, h => by
    simp [arunT] at h
    obtain ⟨rfl, rfl⟩ := h
    exact ⟨rfl, rfl, fun k r hk => by simp at hk⟩
  | o :: os, i0, s, s', rs, h => by
    have step : ∀ (r : Rec) (rs' : List Rec), r.i = i0 → r.o = o → r.s = s → RecOk C base r → arunT C base (i0 + 1) os (nxt r) = some (rs', s') → rs = r :: rs' → Chain C base rs s s' ∧ rs.length = (o :: os).length ∧ ∀ k r, rs[k]? = some r → r.i = i0 + k ∧ (o :: os)[k]? = some r.o := by
      intro r rs' e1 e2 e3 e4 e5 e6
      obtain ⟨c1, c2, c3⟩ := arunT_chain os (i0 + 1) _ s' rs' e5
      subst e6
      refine ⟨⟨e3, e4, c1⟩, by simp [c2], fun k q hk => ?_⟩
      cases k with
      | zero => simp at hk; subst hk; exact ⟨e1, by simp [e2]⟩
      | succ k =>
        obtain ⟨d1, d2⟩ := c3 k q (by simpa using hk)
        exact ⟨by omega, by simpa using d2⟩
    unfold arunT at h
    split at h
    · cases h
    · rename_i hg
      split at h
      · rename_i rs' s1 h1
        injection h with h; injection h with h2 h3
        subst h3
        exact step { i := i0, o, s, s' := s, v := noRes, w := false } rs' rfl rfl rfl (by unfold RecOk; exact ⟨hg, rfl, rfl⟩) h1 h2.symm
      · cases h
    · rename_i hg
      split at h
      · cases h
      · rename_i v s1 hz
        split at h
        · rename_i rs' s2 h1
          injection h with h; injection h with h2 h3
          subst h3
          exact step { i := i0, o, s, s' := s1, v, w := true } rs' rfl rfl rfl (by unfold RecOk; exact ⟨hg, hz⟩) h1 h2.symm
        · cases h
end Wab
/- Drawn regions: the parts of the state. -/
namespace Wab
open Go

theorem put_t (s : St) (dst : Option Nat) (v : AVal) (x : Nat) : (s.put dst v).t.get x = if dst = some x then some v else s.t.get x := by
  cases dst with
  | none => simp [St.put]
  | some d =>
    simp only [St.put, Tr.get_set, Option.some.injEq]
    by_cases h : x = d
    · subst h; simp
    · rw [if_neg h, if_neg (Ne.symm h)]

theorem put_h (s : St) (dst : Option Nat) (v : AVal) : (s.put dst v).h = s.h := by cases dst <;> rfl
theorem put_l (s : St) (dst : Option Nat) (v : AVal) : (s.put dst v).l = s.l := by cases dst <;> rfl
theorem put_d (s : St) (dst : Option Nat) (v : AVal) : (s.put dst v).d = s.d := by cases dst <;> rfl

theorem eff_h (base : Nat) (r : Rec) (s : St) : (eff base r s).h = if r.w = true then effH base r s.h else s.h := by
  unfold eff; split <;> simp only [put_h]
theorem eff_l (base : Nat) (r : Rec) (s : St) : (eff base r s).l = if r.w = true ∧ (kinds r.s r.o.op).2 = 2 then r.s'.l else s.l := by
  unfold eff
  by_cases hw : r.w = true
  · rw [if_pos hw, put_l]; simp only [hw, true_and]
  · rw [if_neg hw, put_l, if_neg (fun h => hw h.1)]
theorem eff_d (base : Nat) (r : Rec) (s : St) : (eff base r s).d = if r.w = true ∧ isDefer r.o.op = true then r.s'.d else s.d := by
  unfold eff
  by_cases hw : r.w = true
  · rw [if_pos hw, put_d]; simp only [hw, true_and]
  · rw [if_neg hw, put_d, if_neg (fun h => hw h.1)]

/-- The value that is written. -/
def outV (r : Rec) : AVal := if r.w = true then r.v else noRes
def clr (r : Rec) : List Nat := if r.w = true then clears r.s r.o.op else []

theorem eff_t (base : Nat) (r : Rec) (s : St) (x : Nat) : (eff base r s).t.get x = if r.o.dst = some x then some (outV r) else if x ∈ clr r then some .dead else s.t.get x := by
  unfold eff outV clr
  by_cases hw : r.w = true
  · rw [if_pos hw, put_t]
    simp only [hw, if_true, clearT_get]
  · rw [if_neg hw, put_t]
    simp [hw]

theorem wrR_mem (r : Rec) (x : Nat) : x ∈ wrR r ↔ r.o.dst = some x ∨ x ∈ clr r := by
  unfold wrR clr clears
  cases hd : r.o.dst <;> cases hw : r.w <;> cases hop : r.o.op <;> simp [eq_comm]

/-- Temporaries: only those of wrR are turned. -/
theorem cut_t {base : Nat} (x : Nat) (rs : List Rec) (s1 s2 : St) (S S' : Nat → Bool) (he : s1.t.get x = s2.t.get x) (hS : ∀ r ∈ rs, x ∈ wrR r → S r.i = S' r.i) : (stS base S rs s1).t.get x = (stS base S' rs s2).t.get x :=
  cut (fun s => s.t.get x) (fun r => x ∈ wrR r) (fun r s h => by
    rw [wrR_mem] at h
    simp only [eff_t]
    rw [if_neg fun e => h (.inl e), if_neg fun e => h (.inr e)]) (fun r s t h => by simp only [eff_t]; rw [h]) rs s1 s2 S S' he hS

theorem cut_l {base : Nat} (rs : List Rec) (s1 s2 : St) (S S' : Nat → Bool) (he : s1.l = s2.l) (hS : ∀ r ∈ rs, (kindsR r).2 = 2 → S r.i = S' r.i) : (stS base S rs s1).l = (stS base S' rs s2).l := by
  refine cut (fun s => s.l) (fun r => r.w = true ∧ (kinds r.s r.o.op).2 = 2) (fun r s h => by simp only [eff_l]; rw [if_neg h]) (fun r s t h => by simp only [eff_l]; rw [h]) rs s1 s2 S S' he fun r hr ⟨hw, hk⟩ => hS r hr ?_
  unfold kindsR; rw [hw]
  cases hop : r.o.op <;> rw [hop] at hk <;> first | exact hk | (simp [kinds] at hk)
end Wab
/- Drawn regions: the heap and the deferred calls. -/
namespace Wab
open Go

theorem kinds_defer {s : St} {op : AOp} (h : isDefer op = true) : kinds s op = (2, 2) := by
  cases op <;> simp [isDefer] at h; rfl

theorem isDefer_kinds {r : Rec} (hw : r.w = true) (h : isDefer r.o.op = true) : kindsR r = (2, 2) := by
  rw [kindsR_plain hw (fun ty z e => by rw [e] at h; cases h) (fun ty z e => by rw [e] at h; cases h)]
  exact kinds_defer h

theorem cut_d {base : Nat} (rs : List Rec) (s1 s2 : St) (S S' : Nat → Bool) (he : s1.d = s2.d) (hS : ∀ r ∈ rs, (kindsR r).1 = 2 → S r.i = S' r.i) : (stS base S rs s1).d = (stS base S' rs s2).d := by
  refine cut (fun s => s.d) (fun r => r.w = true ∧ isDefer r.o.op = true) (fun r s h => by simp only [eff_d]; rw [if_neg h]) (fun r s t h => by simp only [eff_d]; rw [h]) rs s1 s2 S S' he fun r hr ⟨hw, hk⟩ => hS r hr ?_
  rw [isDefer_kinds hw hk]

/-- Who turns the heap. -/
def turnsH (r : Rec) : Prop := (kindsR r).1 = 2 ∨ (kindsR r).1 = 3

theorem eff_h_not {base : Nat} {r : Rec} (s : St) (h : ¬ turnsH r) : (eff base r s).h = s.h := by
  rw [eff_h]
  by_cases hw : r.w = true
  · rw [if_pos hw]
    have n1 : ∀ ty z, r.o.op ≠ .allocH ty z := fun ty z e => h (.inr (by unfold kindsR; rw [hw, e]; rfl))
    have n2 : ∀ ty x, r.o.op ≠ .boxH ty x := fun ty x e => h (.inr (by unfold kindsR; rw [hw, e]; rfl))
    rw [effH_plain n1 n2, if_neg fun e => h (.inl (by rw [kindsR_plain hw n1 n2]; exact e))]
  · rw [if_neg hw]

theorem cut_h {base : Nat} (rs : List Rec) (s1 s2 : St) (S S' : Nat → Bool) (he : s1.h = s2.h) (hS : ∀ r ∈ rs, turnsH r → S r.i = S' r.i) : (stS base S rs s1).h = (stS base S' rs s2).h :=
  cut (fun s => s.h) turnsH (fun r s h => eff_h_not s h) (fun r s t h => by simp only [eff_h]; rw [h]) rs s1 s2 S S' he hS
end Wab
/- Drawn regions: unordered operations commute. -/
namespace Wab
open Go

def putT (dst : Option Nat) (v : AVal) (t : Tr AVal) : Tr AVal := match dst with
  | some d => t.set d (some v)
  | none => t

theorem eff_tr (base : Nat) (r : Rec) (s : St) : (eff base r s).t = putT r.o.dst (outV r) (clearT (clr r) s.t) := by
  unfold eff outV clr putT
  by_cases hw : r.w = true
  · rw [if_pos hw, if_pos hw, if_pos hw]; cases r.o.dst <;> rfl
  · rw [if_neg hw, if_neg hw, if_neg hw]; cases r.o.dst <;> rfl

theorem putT_comm {a b : Option Nat} (v u : AVal) (t : Tr AVal) (h : ∀ d, a = some d → b ≠ some d) : putT a v (putT b u t) = putT b u (putT a v t) := by
  cases a <;> cases b <;> try rfl
  rename_i x y
  simp only [putT]
  exact set_comm t y x _ _ (fun e => h x rfl (by rw [e]))

theorem clearT_putT {a : Option Nat} (v : AVal) (ks : List Nat) (t : Tr AVal) (h : ∀ d, a = some d → d ∉ ks) : clearT ks (putT a v t) = putT a v (clearT ks t) := by
  cases a with
  | none => rfl
  | some d => exact clearT_comm ks t d _ (h d rfl)

theorem disj_spec {a b : List Nat} (h : disj a b = true) : ∀ x ∈ a, x ∉ b := by
  intro x hx hb
  unfold disj at h
  rw [List.all_eq_true] at h
  have := h x hx
  simp only [Bool.not_eq_true', List.any_eq_false] at this
  exact this x hb (by simp)

theorem eff_t_comm {base : Nat} {x y : Rec} (s : St) (h : ∀ k ∈ wrR x, k ∉ wrR y) : (eff base y (eff base x s)).t = (eff base x (eff base y s)).t := by
  simp only [eff_tr]
  have hx : ∀ d, x.o.dst = some d → d ∈ wrR x := fun d e => (wrR_mem x d).2 (.inl e)
  have hy : ∀ d, y.o.dst = some d → d ∈ wrR y := fun d e => (wrR_mem y d).2 (.inl e)
  have cx : ∀ d ∈ clr x, d ∈ wrR x := fun d e => (wrR_mem x d).2 (.inr e)
  have cy : ∀ d ∈ clr y, d ∈ wrR y := fun d e => (wrR_mem y d).2 (.inr e)
  rw [clearT_putT _ _ _ fun d e k => h d (hx d e) (cy d k), clearT_putT _ _ _ fun d e k => h d (cx d k) (hy d e)]
  rw [putT_comm _ _ _ fun d e k => h d (hx d k) (hy d e)]
  rw [clearT_clearT _ _ _ fun k e j => h k (cx k j) (cy k e)]
end Wab
