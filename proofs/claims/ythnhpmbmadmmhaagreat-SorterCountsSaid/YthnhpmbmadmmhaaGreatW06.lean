/- Part 7 of this claim: an abstract interpreter over the model, its soundness, and what is run in it. -/
import Derived.Orders
import Derived.KernelRfl
import Derived.Test.YthnhpmbmadmmhaaGreatW05
set_option maxRecDepth 20000
set_option linter.unusedSimpArgs false
set_option linter.unusedVariables false
/- Drawn regions: unordered operations commute, the whole state. -/
namespace Wab
open Go

theorem effH_three {base : Nat} {r : Rec} (hw : r.w = true) (h : (kindsR r).1 = 3) : (∃ b, ∀ k : AHeap, effH base r k = k.put (base + r.i) b) ∨ ∀ k, effH base r k = k := by
  by_cases c1 : ∃ ty z, r.o.op = .allocH ty z
  · obtain ⟨ty, z, c1⟩ := c1
    exact .inl ⟨_, fun k => by unfold effH; rw [c1]⟩
  · by_cases c2 : ∃ ty x, r.o.op = .boxH ty x
    · obtain ⟨ty, x, c2⟩ := c2
      cases hv : nlO r.s.t x with
      | none => exact .inr fun k => by unfold effH; rw [c2]; simp only [hv]
      | some v => exact .inl ⟨.cells 0 ty v.cells 0 false, fun k => by unfold effH; rw [c2]; simp only [hv]⟩
    · rw [kindsR_plain hw (fun ty z e => c1 ⟨ty, z, e⟩) (fun ty x e => c2 ⟨ty, x, e⟩)] at h
      have := (kinds_le r.s r.o.op).1; omega

theorem heap_put_comm (k : AHeap) (i j : Nat) (a b : ABlock) (h : i ≠ j) : (k.put i a).put j b = (k.put j b).put i a := by
  unfold AHeap.put
  simp only [set_comm k.m i j _ _ h]

theorem w_of_turns {r : Rec} (h : turnsH r) : r.w = true := by
  cases hw : r.w with
  | true => rfl
  | false => unfold turnsH kindsR at h; rw [hw] at h; simp at h

theorem eff_h_comm {C : Oracle} {base : Nat} {x y : Rec} (s : St) (hi : x.i ≠ y.i) (h : heapOk C x y (kindsR x).1 (kindsR y).1 = true) : (eff base y (eff base x s)).h = (eff base x (eff base y s)).h := by
  by_cases hx : turnsH x
  · by_cases hy : turnsH y
    · have wx := w_of_turns hx
      have wy := w_of_turns hy
      have h33 : (kindsR x).1 = 3 ∧ (kindsR y).1 = 3 := by
        rcases hx with e1 | e1 <;> rcases hy with e2 | e2 <;> rw [e1, e2] at h <;> simp [heapOk] at h
        exact ⟨e1, e2⟩
      simp only [eff_h, wx, wy, if_true]
      rcases effH_three (base := base) wx h33.1 with ⟨b1, q1⟩ | q1 <;> rcases effH_three (base := base) wy h33.2 with ⟨b2, q2⟩ | q2 <;> simp only [q1, q2]
      exact heap_put_comm _ _ _ _ _ (by omega)
    · rw [eff_h_not _ hy]
      simp only [eff_h]
      rw [← eff_h base x s]
      have := eff_h_not (base := base) s hy
      simp only [eff_h] at this ⊢
      rw [this]
  · rw [eff_h_not _ hx]
    have := eff_h_not (base := base) s hx
    simp only [eff_h] at this ⊢
    rw [this]
end Wab
/- Drawn regions: exchange. -/
namespace Wab
open Go

theorem St.ext' {a b : St} (h1 : a.t = b.t) (h2 : a.l = b.l) (h3 : a.h = b.h) (h4 : a.d = b.d) : a = b := by
  cases a; cases b; simp only [St.mk.injEq]; exact ⟨h1, h2, h3, h4⟩

theorem kinds2_of {r : Rec} (hw : r.w = true) (h : (kinds r.s r.o.op).2 = 2) : (kindsR r).2 = 2 := by
  unfold kindsR; rw [hw]
  cases hop : r.o.op <;> rw [hop] at h <;> first | exact h | (simp [kinds] at h)

theorem eff_l_comm {C : Oracle} {base : Nat} {x y : Rec} (s : St) (h : boxOk C x y (kindsR x).2 (kindsR y).2 = true) : (eff base y (eff base x s)).l = (eff base x (eff base y s)).l := by
  simp only [eff_l]
  by_cases hx : x.w = true ∧ (kinds x.s x.o.op).2 = 2
  · by_cases hy : y.w = true ∧ (kinds y.s y.o.op).2 = 2
    · rw [kinds2_of hx.1 hx.2, kinds2_of hy.1 hy.2] at h; simp [boxOk] at h
    · rw [if_neg hy, if_pos hx, if_pos hx]
  · rw [if_neg hx, if_neg hx]

theorem eff_d_comm {C : Oracle} {base : Nat} {x y : Rec} (s : St) (h : boxOk C x y (kindsR x).2 (kindsR y).2 = true) : (eff base y (eff base x s)).d = (eff base x (eff base y s)).d := by
  simp only [eff_d]
  by_cases hx : x.w = true ∧ isDefer x.o.op = true
  · by_cases hy : y.w = true ∧ isDefer y.o.op = true
    · rw [isDefer_kinds hx.1 hx.2, isDefer_kinds hy.1 hy.2] at h; simp [boxOk] at h
    · rw [if_neg hy, if_pos hx, if_pos hx]
  · rw [if_neg hx, if_neg hx]

/-- Two operations that may be exchanged. -/
theorem eff_comm {C : Oracle} {base : Nat} {x y : Rec} (s : St) (hi : x.i ≠ y.i) (h : commute C x y = true) : eff base y (eff base x s) = eff base x (eff base y s) := by
  unfold commute at h
  simp only [Bool.and_eq_true] at h
  obtain ⟨⟨⟨h1, h2⟩, h3⟩, h4⟩ := h
  exact St.ext' (eff_t_comm s fun k hk hy => disj_spec h1 k hk (List.mem_append.2 (.inr hy))) (eff_l_comm s h4) (eff_h_comm s hi h3) (eff_d_comm s h4)

/-- One more operation: put in at its place, or at the end. -/
theorem stS_insert {base : Nat} : ∀ (rs : List Rec) (i0 : Nat) (s : St) (S : Nat → Bool) (k : Nat) (r : Rec), Idx i0 rs → rs[k]? = some r → S r.i = false → (∀ q ∈ rs, r.i < q.i → S q.i = true → ∀ s, eff base q (eff base r s) = eff base r (eff base q s)) →
    stS base (fun j => S j || decide (j = r.i)) rs s = eff base r (stS base S rs s)
  | [], _, _, _, k, r, _, hk, _, _ => by simp at hk
  | q :: rs, i0, s, S, 0, r, hi, hk, hS, hc => by
    simp at hk; subst hk
    have hq : q.i = i0 := by have := hi 0 q rfl; omega
    simp only [stS, hS, Bool.false_or, decide_true, if_true, Bool.false_eq_true, if_false]
    -- behind it the two sets are the same
    have go : ∀ (l : List Rec) (s : St), (∀ x ∈ l, q.i < x.i) → (∀ x ∈ l, x ∈ rs) → stS base (fun j => S j || decide (j = q.i)) l (eff base q s) = eff base q (stS base S l s) := by
      intro l
      induction l with
      | nil => intro s _ _; rfl
      | cons x l ih =>
        intro s hl hm
        have hx := hl x List.mem_cons_self
        have hne : decide (x.i = q.i) = false := by simp; omega
        simp only [stS, hne, Bool.or_false]
        by_cases hs : S x.i = true
        · rw [if_pos hs, if_pos hs, hc x (List.mem_cons_of_mem _ (hm x List.mem_cons_self)) hx hs s]
          exact ih _ (fun y hy => hl y (List.mem_cons_of_mem _ hy)) fun y hy => hm y (List.mem_cons_of_mem _ hy)
        · rw [if_neg hs, if_neg hs]
          exact ih _ (fun y hy => hl y (List.mem_cons_of_mem _ hy)) fun y hy => hm y (List.mem_cons_of_mem _ hy)
    exact go rs s (fun x hx => by have := (hi.tail.mem hx).1; omega) fun x hx => hx
  | q :: rs, i0, s, S, k + 1, r, hi, hk, hS, hc => by
    have hk' : rs[k]? = some r := by simpa using hk
    have hq : q.i = i0 := by have := hi 0 q rfl; omega
    have hr := (hi.tail.mem (List.mem_of_getElem? hk')).1
    have hne : decide (q.i = r.i) = false := by simp; omega
    simp only [stS, hne, Bool.or_false]
    exact stS_insert rs (i0 + 1) _ S k r hi.tail hk' hS fun x hx => hc x (List.mem_cons_of_mem _ hx)
end Wab
/- Drawn regions: an operation that may go on. -/
namespace Wab
open Go

theorem pairs {C : Oracle} {b : List Nat} : ∀ (rs : List Rec) (i0 : Nat), Idx i0 rs → commuteAll C b rs = true → ∀ x ∈ rs, ∀ y ∈ rs, x.i < y.i → ordered b x.i y.i = true ∨ commute C x y = true
  | [], _, _, _, x, hx, _, _, _ => by cases hx
  | r :: rs, i0, hi, h, x, hx, y, hy, hlt => by
    simp only [commuteAll, Bool.and_eq_true] at h
    have hr : r.i = i0 := by have := hi 0 r rfl; omega
    rcases List.mem_cons.1 hx with rfl | hx2
    · rcases List.mem_cons.1 hy with rfl | hy
      · omega
      · have := h.1
        rw [List.all_eq_true] at this
        have := this y hy
        simpa [Bool.or_eq_true] using this
    · rcases List.mem_cons.1 hy with rfl | hy
      · have := (hi.tail.mem hx2).1; omega
      · exact pairs rs (i0 + 1) hi.tail h.2 x hx2 y hy hlt

/-- An operation that may go on behind those of S. -/
structure Ready (b : List Nat) (S : Nat → Bool) (i : Nat) : Prop where
  no : S i = false
  pre : ∀ j, j < i → ordered b j i = true → S j = true
  post : ∀ j, i < j → ordered b i j = true → S j = false

/-- The heap ahead of an operation that turns it. -/
theorem at_h2 {C : Oracle} {b : List Nat} {base : Nat} {rs : List Rec} {s0 s' : St} (hc : Chain C base rs s0 s') (hi : Idx 0 rs) (hm : commuteAll C b rs = true) {S : Nat → Bool} {r : Rec} (hr : r ∈ rs) (hS : Ready b S r.i) (hk : (kindsR r).1 = 2) : (stS base S rs s0).h = r.s.h := by
  obtain ⟨k, hkr⟩ := List.getElem?_of_mem hr
  have hik := hi k r hkr
  rw [← stS_upto rs 0 s0 s' hc hi k r hkr]
  refine cut_h rs s0 s0 S _ rfl fun q hq ht => ?_
  have bad1 : heapOk C q r (kindsR q).1 (kindsR r).1 = false := by rw [hk]; rcases ht with e | e <;> rw [e] <;> rfl
  have bad2 : heapOk C r q (kindsR r).1 (kindsR q).1 = false := by rw [hk]; rcases ht with e | e <;> rw [e] <;> rfl
  rcases Nat.lt_trichotomy q.i r.i with h | h | h
  · rcases pairs rs 0 hi hm q hq r hr h with ho | ho
    · rw [hS.pre _ h ho]; simp; omega
    · unfold commute at ho; rw [bad1] at ho; simp at ho
  · rw [h, hS.no]; simp; omega
  · rcases pairs rs 0 hi hm r hr q hq h with ho | ho
    · rw [hS.post _ h ho]; simp; omega
    · unfold commute at ho; rw [bad2] at ho; simp at ho

theorem at_l2 {C : Oracle} {b : List Nat} {base : Nat} {rs : List Rec} {s0 s' : St} (hc : Chain C base rs s0 s') (hi : Idx 0 rs) (hm : commuteAll C b rs = true) {S : Nat → Bool} {r : Rec} (hr : r ∈ rs) (hS : Ready b S r.i) (hk : (kindsR r).2 = 2) : (stS base S rs s0).l = r.s.l := by
  obtain ⟨k, hkr⟩ := List.getElem?_of_mem hr
  have hik := hi k r hkr
  rw [← stS_upto rs 0 s0 s' hc hi k r hkr]
  refine cut_l rs s0 s0 S _ rfl fun q hq ht => ?_
  have bad1 : boxOk C q r (kindsR q).2 (kindsR r).2 = false := by rw [hk, ht]; rfl
  have bad2 : boxOk C r q (kindsR r).2 (kindsR q).2 = false := by rw [hk, ht]; rfl
  rcases Nat.lt_trichotomy q.i r.i with h | h | h
  · rcases pairs rs 0 hi hm q hq r hr h with ho | ho
    · rw [hS.pre _ h ho]; simp; omega
    · unfold commute at ho; rw [bad1] at ho; simp at ho
  · rw [h, hS.no]; simp; omega
  · rcases pairs rs 0 hi hm r hr q hq h with ho | ho
    · rw [hS.post _ h ho]; simp; omega
    · unfold commute at ho; rw [bad2] at ho; simp at ho

theorem at_d2 {C : Oracle} {b : List Nat} {base : Nat} {rs : List Rec} {s0 s' : St} (hc : Chain C base rs s0 s') (hi : Idx 0 rs) (hm : commuteAll C b rs = true) {S : Nat → Bool} {r : Rec} (hr : r ∈ rs) (hS : Ready b S r.i) (hk : (kindsR r).1 = 2) : (stS base S rs s0).d = r.s.d := by
  obtain ⟨k, hkr⟩ := List.getElem?_of_mem hr
  have hik := hi k r hkr
  rw [← stS_upto rs 0 s0 s' hc hi k r hkr]
  refine cut_d rs s0 s0 S _ rfl fun q hq ht => ?_
  have bad1 : heapOk C q r (kindsR q).1 (kindsR r).1 = false := by rw [hk, ht]; rfl
  have bad2 : heapOk C r q (kindsR r).1 (kindsR q).1 = false := by rw [hk, ht]; rfl
  rcases Nat.lt_trichotomy q.i r.i with h | h | h
  · rcases pairs rs 0 hi hm q hq r hr h with ho | ho
    · rw [hS.pre _ h ho]; simp; omega
    · unfold commute at ho; rw [bad1] at ho; simp at ho
  · rw [h, hS.no]; simp; omega
  · rcases pairs rs 0 hi hm r hr q hq h with ho | ho
    · rw [hS.post _ h ho]; simp; omega
    · unfold commute at ho; rw [bad2] at ho; simp at ho

/-- The temporaries that an operation reads. -/
theorem at_t {C : Oracle} {b : List Nat} {base : Nat} {rs : List Rec} {s0 s' : St} (hc : Chain C base rs s0 s') (hi : Idx 0 rs) (hm : commuteAll C b rs = true) {S : Nat → Bool} {r : Rec} (hr : r ∈ rs) (hS : Ready b S r.i) {x : Nat} (hx : x ∈ rdR r) : (stS base S rs s0).t.get x = r.s.t.get x := by
  obtain ⟨k, hkr⟩ := List.getElem?_of_mem hr
  have hik := hi k r hkr
  rw [← stS_upto rs 0 s0 s' hc hi k r hkr]
  refine cut_t x rs s0 s0 S _ rfl fun q hq ht => ?_
  rcases Nat.lt_trichotomy q.i r.i with h | h | h
  · rcases pairs rs 0 hi hm q hq r hr h with ho | ho
    · rw [hS.pre _ h ho]; simp; omega
    · unfold commute at ho
      simp only [Bool.and_eq_true] at ho
      exact absurd (List.mem_append.2 (.inl hx)) (disj_spec ho.1.1.1 x ht)
  · rw [h, hS.no]; simp; omega
  · rcases pairs rs 0 hi hm r hr q hq h with ho | ho
    · rw [hS.post _ h ho]; simp; omega
    · unfold commute at ho
      simp only [Bool.and_eq_true] at ho
      exact absurd ht (disj_spec ho.1.1.2 x hx)
end Wab
/- Drawn regions: those that only look. -/
namespace Wab
open Go

/-- S is closed under what is ahead. -/
def Closed (b : List Nat) (S : Nat → Bool) : Prop := ∀ i j, i < j → ordered b i j = true → S j = true → S i = true

theorem exists_min {Q : Nat → Prop} (h : ∃ n, Q n) : ∃ n, Q n ∧ ∀ m, m < n → ¬ Q m := by
  obtain ⟨n, hn⟩ := h
  induction n using Nat.strongRecOn with
  | _ n ih =>
    by_cases hh : ∃ m, m < n ∧ Q m
    · obtain ⟨m, h1, h2⟩ := hh; exact ih m h1 h2
    · exact ⟨n, hn, fun m h1 h2 => hh ⟨m, h1, h2⟩⟩

theorem exists_max {Q : Nat → Prop} (B : Nat) (hB : ∀ n, Q n → n ≤ B) (h : ∃ n, Q n) : ∃ n, Q n ∧ ∀ m, n < m → ¬ Q m := by
  obtain ⟨k, ⟨n, h1, h2⟩, h3⟩ := exists_min (Q := fun k => ∃ n, Q n ∧ k = B - n) (by obtain ⟨n, hn⟩ := h; exact ⟨B - n, n, hn, rfl⟩)
  refine ⟨n, h1, fun m hm hq => h3 (B - m) ?_ ⟨m, hq, rfl⟩⟩
  have := hB n h1; have := hB m hq; omega

/-- Where a set of turning operations breaks off: either none ahead of r is missing and none behind it is there, or a first one is missing, or a last one is there. -/
theorem break_off {rs : List Rec} (T : Rec → Prop) (S : Nat → Bool) (r : Rec) :
    ((∀ q ∈ rs, T q → q.i < r.i → S q.i = true) ∧ ∀ q ∈ rs, T q → r.i < q.i → S q.i = false) ∨
    (∃ m ∈ rs, T m ∧ m.i < r.i ∧ S m.i = false ∧ ∀ q ∈ rs, T q → q.i < m.i → S q.i = true) ∨
    ((∀ q ∈ rs, T q → q.i < r.i → S q.i = true) ∧ ∃ m ∈ rs, T m ∧ r.i < m.i ∧ S m.i = true ∧ ∀ q ∈ rs, T q → m.i < q.i → S q.i = false) := by
  by_cases h1 : ∃ n, ∃ q ∈ rs, T q ∧ q.i = n ∧ n < r.i ∧ S q.i = false
  · obtain ⟨n, ⟨m, hm, ht, he, hl, hs⟩, hmin⟩ := exists_min h1
    refine .inr (.inl ⟨m, hm, ht, by omega, hs, fun q hq tq hqm => ?_⟩)
    cases hsq : S q.i with
    | true => rfl
    | false => exact absurd ⟨q, hq, tq, rfl, by omega, hsq⟩ (hmin q.i (by omega))
  · have a1 : ∀ q ∈ rs, T q → q.i < r.i → S q.i = true := fun q hq tq hl => by
      cases hsq : S q.i with
      | true => rfl
      | false => exact absurd ⟨q.i, q, hq, tq, rfl, hl, hsq⟩ h1
    by_cases h2 : ∃ n, ∃ q ∈ rs, T q ∧ q.i = n ∧ r.i < n ∧ S q.i = true
    · obtain ⟨B, hB⟩ : ∃ B, ∀ q ∈ rs, q.i ≤ B := by
        clear a1 h1 h2
        induction rs with
        | nil => exact ⟨0, fun q hq => by cases hq⟩
        | cons x l ih =>
          obtain ⟨B, hB⟩ := ih
          exact ⟨max x.i B, fun q hq => by
            rcases List.mem_cons.1 hq with rfl | hq
            · omega
            · have := hB q hq; omega⟩
      obtain ⟨n, ⟨m, hm, ht, he, hl, hs⟩, hmax⟩ := exists_max B (fun n ⟨q, hq, _, e, _⟩ => by have := hB q hq; omega) h2
      refine .inr (.inr ⟨a1, m, hm, ht, by omega, hs, fun q hq tq hqm => ?_⟩)
      cases hsq : S q.i with
      | false => rfl
      | true => exact absurd ⟨q, hq, tq, rfl, by omega, hsq⟩ (hmax q.i (by omega))
    · refine .inl ⟨a1, fun q hq tq hl => ?_⟩
      cases hsq : S q.i with
      | false => rfl
      | true => exact absurd ⟨q.i, q, hq, tq, rfl, hl, hsq⟩ h2
end Wab
/- Drawn regions: a look at the heap, at the boxes. -/
namespace Wab
open Go

/-- Turning operations of which one is there and an earlier one is not are both mere new variables. -/
theorem gap {C : Oracle} {b : List Nat} {rs : List Rec} (hi : Idx 0 rs) (hm : commuteAll C b rs = true) {S : Nat → Bool} (hS : Closed b S) {p q : Rec} (hp : p ∈ rs) (hq : q ∈ rs) (tp : turnsH p) (tq : turnsH q) (hlt : p.i < q.i) (sp : S p.i = false) (sq : S q.i = true) : (kindsR p).1 = 3 ∧ (kindsR q).1 = 3 := by
  rcases pairs rs 0 hi hm p hp q hq hlt with ho | ho
  · have := hS p.i q.i hlt ho sq; rw [sp] at this; cases this
  · unfold commute at ho
    simp only [Bool.and_eq_true] at ho
    have h := ho.1.2
    rcases tp with e1 | e1 <;> rcases tq with e2 | e2 <;> rw [e1, e2] at h <;> simp [heapOk] at h
    exact ⟨e1, e2⟩

theorem aop_of {C : Oracle} {base : Nat} {r : Rec} (hr : RecOk C base r) (hw : r.w = true) (hk : (kindsR r).1 = 1 ∨ (kindsR r).2 = 1) : aop C r.s r.o.op = some (r.v, r.s') := by
  unfold RecOk at hr
  rw [if_pos hw] at hr
  rw [← aopD_plain (id := base + r.i)]
  · exact hr.2
  · intro ty z e; unfold kindsR at hk; rw [hw, e] at hk; simp at hk
  · intro ty z e; unfold kindsR at hk; rw [hw, e] at hk; simp at hk

theorem chain_ok {C : Oracle} {base : Nat} : ∀ {rs : List Rec} {s s' : St}, Chain C base rs s s' → ∀ r ∈ rs, RecOk C base r
  | [], _, _, _, r, h => by cases h
  | q :: rs, s, s', h, r, hr => by
    rcases List.mem_cons.1 hr with rfl | hr
    · exact h.2.1
    · exact chain_ok h.2.2 r hr

theorem stS_after {C : Oracle} {base : Nat} : ∀ (rs : List Rec) (i0 : Nat) (s s' : St), Chain C base rs s s' → Idx i0 rs → ∀ k r, rs[k]? = some r → stS base (fun j => decide (j < i0 + k + 1)) rs s = nxt r
  | [], _, _, _, _, _, k, r, h => by simp at h
  | q :: rs, i0, s, s', h, hi, 0, r, hr => by
    simp at hr; subst hr
    have hq : q.i = i0 := by have := hi 0 q rfl; omega
    obtain ⟨h1, h2, h3⟩ := h
    simp only [stS]
    rw [if_pos (by rw [hq]; simp), ← h1, eff_self h2]
    exact stS_none _ _ fun x hx => by
      have := (hi.tail.mem hx).1
      simp; omega
  | q :: rs, i0, s, s', h, hi, k + 1, r, hr => by
    obtain ⟨h1, h2, h3⟩ := h
    have hq : q.i = i0 := by have := hi 0 q rfl; omega
    simp only [stS]
    rw [if_pos (by rw [hq]; simp; omega), ← h1, eff_self h2]
    have := stS_after rs (i0 + 1) (nxt q) s' h3 hi.tail k r (by simpa using hr)
    rw [show i0 + 1 + k + 1 = i0 + (k + 1) + 1 from by omega] at this
    exact this

section
variable {C : Oracle} {b : List Nat} {base : Nat} {rs : List Rec} {s0 s' : St} {S : Nat → Bool} {r : Rec}

theorem upto (hc : Chain C base rs s0 s') (hi : Idx 0 rs) (hr : r ∈ rs) : stS base (fun j => decide (j < r.i)) rs s0 = r.s := by
  obtain ⟨k, hkr⟩ := List.getElem?_of_mem hr
  have hik := hi k r hkr
  have := stS_upto rs 0 s0 s' hc hi k r hkr
  rw [← hik] at this; exact this

theorem after (hc : Chain C base rs s0 s') (hi : Idx 0 rs) (hr : r ∈ rs) : stS base (fun j => decide (j < r.i + 1)) rs s0 = nxt r := by
  obtain ⟨k, hkr⟩ := List.getElem?_of_mem hr
  have hik := hi k r hkr
  have := stS_after rs 0 s0 s' hc hi k r hkr
  rw [show 0 + k + 1 = r.i + 1 from by omega] at this; exact this

theorem nxt_h (r : Rec) : (nxt r).h = if r.w = true then r.s'.h else r.s.h := by
  unfold nxt; split <;> rw [put_h]
theorem nxt_l (r : Rec) : (nxt r).l = if r.w = true then r.s'.l else r.s.l := by
  unfold nxt; split <;> rw [put_l]

theorem sameV_refl (x : AVal) (s : St) : sameV (some (x, s)) x = true := beq_refl x

/-- A look at the heap. -/
theorem at_h1 (hc : Chain C base rs s0 s') (hi : Idx 0 rs) (hm : commuteAll C b rs = true) (hr : r ∈ rs) (hcl : Closed b S) (hS : Ready b S r.i) (hk : (kindsR r).1 = 1) (hw : r.w = true) :
    sameV (aop C { r.s with h := (stS base S rs s0).h } r.o.op) r.v = true := by
  have hnt : ¬ turnsH r := by unfold turnsH; omega
  -- what an unordered turning operation is
  have kind2 : ∀ q ∈ rs, turnsH q → (q.i < r.i ∧ S q.i = false ∨ r.i < q.i ∧ S q.i = true) → (kindsR q).1 = 2 ∧ lookH C r q = true := by
    intro q hq tq hh
    have h2 : ∀ h : heapOk C q r (kindsR q).1 (kindsR r).1 = true, (kindsR q).1 = 2 ∧ lookH C r q = true := by
      intro h; rw [hk] at h
      rcases tq with e | e <;> rw [e] at h <;> simp only [heapOk] at h
      · exact ⟨e, h⟩
      · cases h
    have h3 : ∀ h : heapOk C r q (kindsR r).1 (kindsR q).1 = true, (kindsR q).1 = 2 ∧ lookH C r q = true := by
      intro h; rw [hk] at h
      rcases tq with e | e <;> rw [e] at h <;> simp only [heapOk] at h
      · exact ⟨e, h⟩
      · cases h
    rcases hh with ⟨hlt, hs⟩ | ⟨hlt, hs⟩
    · rcases pairs rs 0 hi hm q hq r hr hlt with ho | ho
      · rw [hS.pre _ hlt ho] at hs; cases hs
      · unfold commute at ho; simp only [Bool.and_eq_true] at ho; exact h2 ho.1.2
    · rcases pairs rs 0 hi hm r hr q hq hlt with ho | ho
      · rw [hS.post _ hlt ho] at hs; cases hs
      · unfold commute at ho; simp only [Bool.and_eq_true] at ho; exact h3 ho.1.2
  rcases break_off (rs := rs) turnsH S r with ⟨a1, a2⟩ | ⟨m, hmr, tm, hlt, hsm, a1⟩ | ⟨a1, m, hmr, tm, hlt, hsm, a2⟩
  · have e : (stS base S rs s0).h = r.s.h := by
      rw [← upto hc hi hr]
      refine cut_h rs s0 s0 S _ rfl fun q hq ht => ?_
      rcases Nat.lt_trichotomy q.i r.i with h | h | h
      · rw [a1 q hq ht h]; simp; omega
      · rw [h, hS.no]; simp
      · rw [a2 q hq ht h]; simp; omega
    rw [e]
    have := aop_of (chain_ok hc r hr) hw (.inl hk)
    rw [show ({ r.s with h := r.s.h } : St) = r.s from rfl, this]
    exact sameV_refl _ _
  · obtain ⟨k2, hl⟩ := kind2 m hmr tm (.inl ⟨hlt, hsm⟩)
    have e : (stS base S rs s0).h = m.s.h := by
      rw [← upto hc hi hmr]
      refine cut_h rs s0 s0 S _ rfl fun q hq ht => ?_
      rcases Nat.lt_trichotomy q.i m.i with h | h | h
      · rw [a1 q hq ht h]; simp; omega
      · rw [h, hsm]; simp
      · cases hsq : S q.i with
        | false => simp; omega
        | true => have := (gap hi hm hcl hmr hq tm ht h hsm hsq).1; omega
    rw [e]
    unfold lookH at hl
    simp only [Bool.and_eq_true] at hl
    exact hl.1
  · obtain ⟨k2, hl⟩ := kind2 m hmr tm (.inr ⟨hlt, hsm⟩)
    have e : (stS base S rs s0).h = m.s'.h := by
      have hn := nxt_h m
      rw [if_pos (w_of_turns tm)] at hn
      rw [← hn, ← after hc hi hmr]
      refine cut_h rs s0 s0 S _ rfl fun q hq ht => ?_
      rcases Nat.lt_trichotomy q.i m.i with h | h | h
      · cases hsq : S q.i with
        | true => simp; omega
        | false => have := (gap hi hm hcl hq hmr ht tm h hsq hsm).2; omega
      · rw [h, hsm]; simp
      · rw [a2 q hq ht h]; simp; omega
    rw [e]
    unfold lookH at hl
    simp only [Bool.and_eq_true] at hl
    exact hl.2

theorem gapL (hi : Idx 0 rs) (hm : commuteAll C b rs = true) (hS : Closed b S) {p q : Rec} (hp : p ∈ rs) (hq : q ∈ rs) (tp : (kindsR p).2 = 2) (tq : (kindsR q).2 = 2) (hlt : p.i < q.i) (sp : S p.i = false) (sq : S q.i = true) : False := by
  rcases pairs rs 0 hi hm p hp q hq hlt with ho | ho
  · have := hS p.i q.i hlt ho sq; rw [sp] at this; cases this
  · unfold commute at ho
    simp only [Bool.and_eq_true] at ho
    have h := ho.2
    rw [tp, tq] at h; simp [boxOk] at h

/-- A look at the frame's own boxes. -/
theorem at_l1 (hc : Chain C base rs s0 s') (hi : Idx 0 rs) (hm : commuteAll C b rs = true) (hr : r ∈ rs) (hcl : Closed b S) (hS : Ready b S r.i) (hk : (kindsR r).2 = 1) (hw : r.w = true) :
    sameV (aop C { r.s with l := (stS base S rs s0).l } r.o.op) r.v = true := by
  have wof : ∀ q : Rec, (kindsR q).2 = 2 → q.w = true := fun q h => by
    cases hq : q.w with
    | true => rfl
    | false => unfold kindsR at h; rw [hq] at h; cases h
  have look : ∀ q ∈ rs, (kindsR q).2 = 2 → (q.i < r.i ∧ S q.i = false ∨ r.i < q.i ∧ S q.i = true) → lookL C r q = true := by
    intro q hq tq hh
    rcases hh with ⟨hlt, hs⟩ | ⟨hlt, hs⟩
    · rcases pairs rs 0 hi hm q hq r hr hlt with ho | ho
      · rw [hS.pre _ hlt ho] at hs; cases hs
      · unfold commute at ho; simp only [Bool.and_eq_true] at ho
        have h := ho.2; rw [hk, tq] at h; exact h
    · rcases pairs rs 0 hi hm r hr q hq hlt with ho | ho
      · rw [hS.post _ hlt ho] at hs; cases hs
      · unfold commute at ho; simp only [Bool.and_eq_true] at ho
        have h := ho.2; rw [hk, tq] at h; exact h
  rcases break_off (rs := rs) (fun q => (kindsR q).2 = 2) S r with ⟨a1, a2⟩ | ⟨m, hmr, tm, hlt, hsm, a1⟩ | ⟨a1, m, hmr, tm, hlt, hsm, a2⟩
  · have e : (stS base S rs s0).l = r.s.l := by
      rw [← upto hc hi hr]
      refine cut_l rs s0 s0 S _ rfl fun q hq ht => ?_
      rcases Nat.lt_trichotomy q.i r.i with h | h | h
      · rw [a1 q hq ht h]; simp; omega
      · rw [h, hS.no]; simp
      · rw [a2 q hq ht h]; simp; omega
    rw [e]
    have := aop_of (chain_ok hc r hr) hw (.inr hk)
    rw [show ({ r.s with l := r.s.l } : St) = r.s from rfl, this]
    exact sameV_refl _ _
  · have hl := look m hmr tm (.inl ⟨hlt, hsm⟩)
    have e : (stS base S rs s0).l = m.s.l := by
      rw [← upto hc hi hmr]
      refine cut_l rs s0 s0 S _ rfl fun q hq ht => ?_
      rcases Nat.lt_trichotomy q.i m.i with h | h | h
      · rw [a1 q hq ht h]; simp; omega
      · rw [h, hsm]; simp
      · cases hsq : S q.i with
        | false => simp; omega
        | true => exact (gapL hi hm hcl hmr hq tm ht h hsm hsq).elim
    rw [e]
    unfold lookL at hl
    simp only [Bool.and_eq_true] at hl
    exact hl.1
  · have hl := look m hmr tm (.inr ⟨hlt, hsm⟩)
    have e : (stS base S rs s0).l = m.s'.l := by
      have hn := nxt_l m
      rw [if_pos (wof m tm)] at hn
      rw [← hn, ← after hc hi hmr]
      refine cut_l rs s0 s0 S _ rfl fun q hq ht => ?_
      rcases Nat.lt_trichotomy q.i m.i with h | h | h
      · cases hsq : S q.i with
        | true => simp; omega
        | false => exact (gapL hi hm hcl hq hmr ht tm h hsq hsm).elim
      · rw [h, hsm]; simp
      · rw [a2 q hq ht h]; simp; omega
    rw [e]
    unfold lookL at hl
    simp only [Bool.and_eq_true] at hl
    exact hl.2

/-- The place of a new variable. -/
theorem at_free (hc : Chain C base rs s0 s') (hi : Idx 0 rs) (hm : commuteAll C b rs = true) (hr : r ∈ rs) (hS : Ready b S r.i) (hk : (kindsR r).1 = 3) (hw : r.w = true) :
    freeId (stS base S rs s0).h (base + r.i) = true := by
  rw [← free_of (chain_ok hc r hr) hw hk, ← upto hc hi hr]
  have key : ((fun s : St => (s.h.lock, s.h.next, s.h.m.get (base + r.i))) (stS base S rs s0)) = (fun s : St => (s.h.lock, s.h.next, s.h.m.get (base + r.i))) (stS base (fun j => decide (j < r.i)) rs s0) := by
    refine cut (fun s : St => (s.h.lock, s.h.next, s.h.m.get (base + r.i))) (fun q => (kindsR q).1 = 2 ∨ ((kindsR q).1 = 3 ∧ q.i = r.i)) (fun q s hq => ?_) (fun q s t h => ?_) rs s0 s0 S _ rfl fun q hq ht => ?_
    · by_cases h3 : (kindsR q).1 = 3
      · have hwq : q.w = true := w_of_turns (.inr h3)
        have hne : q.i ≠ r.i := fun e => hq (.inr ⟨h3, e⟩)
        simp only [eff_h, hwq, if_true]
        rcases effH_three (base := base) hwq h3 with ⟨bb, e⟩ | e
        · rw [e]; simp only [AHeap.put, Tr.get_set]; rw [if_neg (by omega)]
        · rw [e]
      · have : ¬ turnsH q := by rintro (e | e); exact hq (.inl e); exact h3 e
        show ((eff base q s).h.lock, (eff base q s).h.next, (eff base q s).h.m.get (base + r.i)) = (s.h.lock, s.h.next, s.h.m.get (base + r.i))
        rw [eff_h_not s this]
    · simp only [Prod.mk.injEq] at h ⊢
      obtain ⟨e1, e2, e3⟩ := h
      by_cases hwq : q.w = true
      · simp only [eff_h, hwq, if_true]
        by_cases h3 : (kindsR q).1 = 3
        · rcases effH_three (base := base) hwq h3 with ⟨bb, e⟩ | e
          · rw [e, e]; simp only [AHeap.put, Tr.get_set]
            refine ⟨e1, e2, ?_⟩
            split
            · rfl
            · exact e3
          · rw [e, e]; exact ⟨e1, e2, e3⟩
        · have n1 : ∀ ty z, q.o.op ≠ .allocH ty z := fun ty z e => h3 (by unfold kindsR; rw [hwq, e]; rfl)
          have n2 : ∀ ty x, q.o.op ≠ .boxH ty x := fun ty x e => h3 (by unfold kindsR; rw [hwq, e]; rfl)
          rw [effH_plain n1 n2, effH_plain n1 n2]
          split
          · exact ⟨rfl, rfl, rfl⟩
          · exact ⟨e1, e2, e3⟩
      · simp only [eff_h, if_neg hwq]; exact ⟨e1, e2, e3⟩
    · rcases ht with ht | ⟨_, he⟩
      · rcases Nat.lt_trichotomy q.i r.i with h | h | h
        · rcases pairs rs 0 hi hm q hq r hr h with ho | ho
          · rw [hS.pre _ h ho]; simp; omega
          · unfold commute at ho; rw [ht, hk] at ho; simp [heapOk] at ho
        · rw [h, hS.no]; simp
        · rcases pairs rs 0 hi hm r hr q hq h with ho | ho
          · rw [hS.post _ h ho]; simp; omega
          · unfold commute at ho; rw [ht, hk] at ho; simp [heapOk] at ho
      · rw [he, hS.no]; simp
  simp only [Prod.mk.injEq] at key
  unfold freeId
  rw [key.1, key.2.1, key.2.2]
end
end Wab
/- Drawn regions: an operation of a drawn run, at a kept place, is sound. -/
namespace Wab
open Go

section
variable {P : Program} {n nt : Nat} {C : Ctx} {Lm : Nat → Option Nat} {s : St} {a : Act} {w : World}

theorem freeId_spec {h : AHeap} {k : Nat} (hf : freeId h k = true) : h.lock ≤ k ∧ k < h.next ∧ h.m.get k = none := by
  unfold freeId at hf
  simp only [Bool.and_eq_true] at hf
  refine ⟨Nat.le_of_ble_eq_true hf.1.1, Nat.le_of_ble_eq_true hf.1.2, ?_⟩
  cases hg : h.m.get k with
  | none => rfl
  | some x => rw [hg] at hf; simp at hf

theorem newVarAt_ok (i : Inv n nt C Lm s a w) {o : Oper} {cs : List AVal} {arr : Array Value} {ty k : Nat} (hf : freeId s.h k = true) (rv : vrels C cs arr.toList) (ov : cs.all one = true)
    (hr : (execOp a.eval o).run P w = .ok (.value (.pointer (some ⟨w.heap.size, 0, none⟩))) { w with heap := w.heap.push (.cells arr ty (0, 0)) }) :
    OpOk P n nt o C a w { s with h := s.h.put k (.cells 0 ty cs 0 false) } (.ptr k 0 0) := by
  obtain ⟨k1, k2, k3⟩ := freeId_spec hf
  rw [← i.σ] at k1 k2 k3
  have hl := vrels_length rv
  have hc := cells_hyp rv ov
  have v := pushAt_V (next := C.σ.next) (o := .cells arr ty (0, 0)) (b := .cells 0 ty cs 0 false) i.hr k3
  have hb : blockRel (C.pushAt k C.σ.next (.cells arr ty (0, 0)) (.cells 0 ty cs 0 false)) ⟨C.H.size, 0⟩ (.cells 0 ty cs 0 false) := by
    simp only [blockRel]
    refine ⟨arr, (0, 0), by simp [Ctx.pushAt], by simp at hl ⊢; omega, fun j hj => ?_, .inl rfl⟩
    obtain ⟨h1, u, h2, h3⟩ := hc j cs[j] (by simp)
    refine ⟨h1, u, ?_, vrel_mono v _ _ h3⟩
    show cellH (C.H.push _) C.H.size (0 + j) = some u
    rw [cellH_push_new, Nat.zero_add]; exact h2
  have hH := pushAt_H i.hr k3 k2 (Nat.le_refl _) hb
  have hi : Inv n nt (C.pushAt k C.σ.next (.cells arr ty (0, 0)) (.cells 0 ty cs 0 false)) Lm { s with h := s.h.put k (.cells 0 ty cs 0 false) } a { w with heap := w.heap.push (.cells arr ty (0, 0)) } := by
    refine i.step v hH (by simp [Ctx.pushAt]) (by rw [i.heap]; rfl) ?_ (fun d j hj => ?_)
    · rw [← i.σ]; rfl
    · obtain ⟨h1, h2, h3⟩ := i.lb d j hj
      exact ⟨by simp only [Ctx.pushAt]; rw [Array.getElem?_push, if_neg (by omega)], h3⟩
  refine OpOk.value hr hi (fun d _ => trel_of_vrel ?_) (pushAt_S i.hr n i.base k3 k1 (Nat.le_refl _) _ _ rfl rfl rfl)
  simp only [vrel]
  refine ⟨pushAt_live.2 (.inl rfl), Nat.zero_le _, _, _, rfl, fun _ => ?_⟩
  simp only [Ctx.pushAt, if_true]
  exact ⟨by rw [i.heap], trivial⟩

theorem tr_allocH {lm : Locs} {lits : List Nat} {pu : Nat → Bool} {o : Oper} {ty : Nat} {zs : List AVal} (ht : trOp P lm lits pu o = some (.allocH ty zs)) : o.op = .alloc ty ∧ zeroC P ty = some zs := by
  cases hop : o.op <;> simp only [trOp, hop] at ht
  case alloc e =>
    split at ht
    · rename_i z0 d h1 h2
      split at ht
      · injection ht with ht; cases ht
      · injection ht with ht; injection ht with e1 e2; subst e1; subst e2; exact ⟨rfl, h1⟩
    · cases ht
  all_goals (exfalso; revert ht; (repeat' split) <;> simp [cond_eq_ite] <;> (try (repeat' split)) <;> simp)

theorem tr_boxH {lm : Locs} {lits : List Nat} {pu : Nat → Bool} {o : Oper} {ty : Nat} {y : AOpd} (ht : trOp P lm lits pu o = some (.boxH ty y)) : ∃ x, o.op = .box ty x ∧ trOpd x = some y := by
  cases hop : o.op <;> simp only [trOp, hop] at ht
  case box e x =>
    split at ht
    · rename_i z0 d h1 h2 h3 h4
      split at ht
      · injection ht with ht; cases ht
      · injection ht with ht; injection ht with e1 e2; subst e1; subst e2; exact ⟨x, rfl, by assumption⟩
    · cases ht
  all_goals (exfalso; revert ht; (repeat' split) <;> simp [cond_eq_ite] <;> (try (repeat' split)) <;> simp)

/-- An operation of a drawn run. -/
theorem opD_ok (i : Inv n nt C Lm s a w) {O : Oracle} (hO : OSound P O) {lm : Locs} {lits : List Nat} {pu : Nat → Bool} (hp : PureOk pu O) {o : Oper} {ao : AOp} (ht : trOp P lm lits pu o = some ao) {k : Nat} {z : AVal} {s' : St} (hz : aopD O k s ao = some (z, s')) : OpOk P n nt o C a w s' z := by
  by_cases c1 : ∃ ty zs, ao = .allocH ty zs
  · obtain ⟨ty, zs, rfl⟩ := c1
    obtain ⟨ho, h0⟩ := tr_allocH ht
    obtain ⟨v, h1, h2, h3⟩ := zeroC_ok h0
    simp only [aopD] at hz
    cases hf : freeId s.h k with
    | false => rw [hf] at hz; cases hz
    | true =>
      rw [hf] at hz; injection hz with hz; injection hz with e1 e2; subst e1; subst e2
      have hr : (execOp a.eval o).run P w = .ok (.value (.pointer (some ⟨w.heap.size, 0, none⟩))) { w with heap := w.heap.push (.cells v.cells ty (0, 0)) } := by
        simp only [execOp, ho]
        exact run_v (by simp [Instr.alloc, h1, newVar, newRow])
      exact newVarAt_ok i hf (h2 C) h3 hr
  · by_cases c2 : ∃ ty x, ao = .boxH ty x
    · obtain ⟨ty, y, rfl⟩ := c2
      obtain ⟨x, ho, hx⟩ := tr_boxH ht
      simp only [aopD] at hz
      split at hz
      · rename_i v hv
        cases hf : (oneV v && freeId s.h k) with
        | false => rw [hf] at hz; cases hz
        | true =>
          rw [hf] at hz; injection hz with hz; injection hz with e1 e2; subst e1; subst e2
          simp only [Bool.and_eq_true] at hf
          obtain ⟨h1, h2⟩ := cells_rel hf.1 (nlO_rel i hx hv).2
          have hr : (execOp a.eval o).run P w = .ok (.value (.pointer (some ⟨w.heap.size, 0, none⟩))) { w with heap := w.heap.push (.cells (a.eval x).cells ty (0, 0)) } := by
            simp only [execOp, ho]
            exact run_v (by simp [Instr.box, newVar, newRow])
          exact newVarAt_ok i hf.2 h2 h1 hr
      · cases hz
    · rw [aopD_plain (fun ty z e => c1 ⟨ty, z, e⟩) (fun ty x e => c2 ⟨ty, x, e⟩)] at hz
      exact op_ok i hO hp ht hz
end

section
variable {C : Oracle} {b : List Nat} {base : Nat} {rs : List Rec} {s0 s' : St} {S : Nat → Bool} {r : Rec}

/-- Behind one more. -/
theorem at_insert (hi : Idx 0 rs) (hm : commuteAll C b rs = true) (hr : r ∈ rs) (hS : Ready b S r.i) : stS base (fun j => S j || decide (j = r.i)) rs s0 = eff base r (stS base S rs s0) := by
  obtain ⟨k, hkr⟩ := List.getElem?_of_mem hr
  refine stS_insert rs 0 s0 S k r hi hkr hS.no fun q hq hlt hs s => ?_
  rcases pairs rs 0 hi hm r hr q hq hlt with ho | ho
  · rw [hS.post _ hlt ho] at hs; cases hs
  · exact eff_comm s (by omega) ho

theorem guard_cong {t u : Tr AVal} {g : Option (Nat × Bool)} (h : ∀ j b, g = some (j, b) → t.get j = u.get j) : guardA t g = guardA u g := by
  unfold guardA
  cases g with
  | none => rfl
  | some p =>
    obtain ⟨j, b⟩ := p
    simp only
    rw [h j b rfl]

theorem at_guard (hc : Chain C base rs s0 s') (hi : Idx 0 rs) (hm : commuteAll C b rs = true) (hr : r ∈ rs) (hS : Ready b S r.i) : guardA (stS base S rs s0).t r.o.guard = some r.w := by
  have h0 : guardA r.s.t r.o.guard = some r.w := by
    have := chain_ok hc r hr
    unfold RecOk at this
    by_cases hw : r.w = true
    · rw [if_pos hw] at this; rw [this.1, hw]
    · rw [if_neg hw] at this; rw [this.1]; simp at hw; rw [hw]
  rw [← h0]
  refine guard_cong fun j bb hg => at_t hc hi hm hr hS ?_
  unfold rdR
  rw [hg]
  simp

/-- What a ready operation does. -/
theorem at_ready (hc : Chain C base rs s0 s') (hi : Idx 0 rs) (hm : commuteAll C b rs = true) (hr : r ∈ rs) (hcl : Closed b S) (hS : Ready b S r.i) (hw : r.w = true) :
    ∃ s1, aopD C (base + r.i) (stS base S rs s0) r.o.op = some (r.v, s1) ∧ s1.put r.o.dst r.v = stS base (fun j => S j || decide (j = r.i)) rs s0 := by
  rw [at_insert hi hm hr hS]
  refine execD (chain_ok hc r hr) hw (fun k hk => at_t hc hi hm hr hS ?_) (fun h => at_h2 hc hi hm hr hS h) (fun h => at_h1 hc hi hm hr hcl hS h hw) (fun h => at_l2 hc hi hm hr hS h) (fun h => at_l1 hc hi hm hr hcl hS h hw) (fun h => ?_) (fun h => at_free hc hi hm hr hS h hw)
  · unfold rdR; rw [hw]; exact List.mem_append.2 (.inr hk)
  · exact at_d2 hc hi hm hr hS (by rw [isDefer_kinds hw h])

/-- One that is not wanted. -/
theorem at_skip (hi : Idx 0 rs) (hm : commuteAll C b rs = true) (hr : r ∈ rs) (hS : Ready b S r.i) (hw : r.w = false) : (stS base S rs s0).put r.o.dst noRes = stS base (fun j => S j || decide (j = r.i)) rs s0 := by
  rw [at_insert hi hm hr hS]
  unfold eff; rw [hw]; simp
end
end Wab
/- Drawn regions: what the edges say. -/
namespace Wab
open Go

section
variable {ops : Array Oper}

def befG (acc : Array Nat) (o : Oper) : Nat := o.after.foldl (fun s e => if Region.binds .any e then s ||| 2 ^ e.on ||| acc.getD e.on 0 else s) 0
def befF (acc : Array Nat) (os : List Oper) : Array Nat := os.foldl (fun acc o => acc.push (befG acc o)) acc

theorem before_eq (ops : Array Oper) : Region.before ops = befF #[] ops.toList := by
  unfold Region.before befF
  rw [← Array.foldl_toList]
  rfl

theorem befF_size : ∀ (os : List Oper) (acc : Array Nat), (befF acc os).size = acc.size + os.length
  | [], acc => by simp [befF]
  | o :: os, acc => by
    have := befF_size os (acc.push (befG acc o))
    unfold befF at this ⊢
    simp only [List.foldl_cons, List.length_cons]
    rw [this, Array.size_push]; omega

theorem befF_old : ∀ (os : List Oper) (acc : Array Nat) (k : Nat), k < acc.size → (befF acc os).getD k 0 = acc.getD k 0
  | [], acc, k, _ => by simp [befF]
  | o :: os, acc, k, h => by
    have := befF_old os (acc.push (befG acc o)) k (by simp; omega)
    unfold befF at this ⊢
    simp only [List.foldl_cons]
    rw [this, Array.getD_eq_getD_getElem?, Array.getD_eq_getD_getElem?, Array.getElem?_push, if_neg (by omega)]

theorem befF_append (acc : Array Nat) (p q : List Oper) : befF acc (p ++ q) = befF (befF acc p) q := by
  unfold befF; rw [List.foldl_append]

theorem befF_at {os : List Oper} {j : Nat} {o : Oper} (h : os[j]? = some o) : (befF #[] os).getD j 0 = befG (befF #[] (os.take j)) o := by
  obtain ⟨hl, he⟩ := List.getElem?_eq_some_iff.1 h
  have hsplit : os = os.take j ++ o :: os.drop (j + 1) := by
    rw [← he]; simp
  have hs : (befF #[] (os.take j)).size = j := by rw [befF_size]; simp; omega
  conv => lhs; rw [hsplit, befF_append]
  show (befF ((befF #[] (os.take j)).push (befG (befF #[] (os.take j)) o)) (os.drop (j + 1))).getD j 0 = _
  rw [befF_old _ _ _ (by simp; omega), Array.getD_eq_getD_getElem?, Array.getElem?_push, if_pos hs.symm]
  rfl

theorem befF_take {os : List Oper} {j k : Nat} (hk : k < j) (hj : j ≤ os.length) : (befF #[] (os.take j)).getD k 0 = (befF #[] os).getD k 0 := by
  conv => rhs; rw [← List.take_append_drop j os, befF_append]
  exact (befF_old _ _ _ (by rw [befF_size]; simp; omega)).symm

theorem foldl_bit {acc : Array Nat} {i : Nat} : ∀ (es : List Edge) (s : Nat), (es.foldl (fun s e => if Region.binds .any e then s ||| 2 ^ e.on ||| acc.getD e.on 0 else s) s).testBit i = true →
    s.testBit i = true ∨ ∃ e ∈ es, Region.binds .any e = true ∧ (i = e.on ∨ (acc.getD e.on 0).testBit i = true)
  | [], s, h => .inl h
  | e :: es, s, h => by
    simp only [List.foldl_cons] at h
    rcases foldl_bit es _ h with h1 | ⟨x, hx, h2⟩
    · by_cases hb : Region.binds .any e = true
      · rw [if_pos hb] at h1
        simp only [Nat.testBit_or, Bool.or_eq_true, Nat.testBit_two_pow, decide_eq_true_eq] at h1
        rcases h1 with (h1 | h1) | h1
        · exact .inl h1
        · exact .inr ⟨e, List.mem_cons_self, hb, .inl h1.symm⟩
        · exact .inr ⟨e, List.mem_cons_self, hb, .inr h1⟩
      · rw [if_neg hb] at h1; exact .inl h1
    · exact .inr ⟨x, List.mem_cons_of_mem _ hx, h2⟩

theorem edges_lt (he : edgesOk ops = true) {j : Nat} {o : Oper} (ho : ops[j]? = some o) {e : Edge} (hm : e ∈ o.after.toList) (hb : Region.binds .any e = true) : e.on < j := by
  unfold edgesOk at he
  rw [List.all_eq_true] at he
  have := he (o, j) (by
    rw [List.mem_zipIdx_iff_getElem?]
    simpa using ho)
  simp only [Array.all_eq_true'] at this
  have h2 := this e (by simpa using hm)
  rw [hb] at h2
  simpa using h2

/-- What is ahead of an operation: an edge's, or what is ahead of that. -/
theorem ordered_edge (he : edgesOk ops = true) {i j : Nat} (h : ordered (Region.before ops).toList i j = true) : ∃ o e, ops[j]? = some o ∧ e ∈ o.after.toList ∧ Region.binds .any e = true ∧ e.on < j ∧ (i = e.on ∨ ordered (Region.before ops).toList i e.on = true) := by
  unfold ordered at h ⊢
  have hget : ∀ k, (Region.before ops).toList.getD k 0 = (Region.before ops).getD k 0 := fun k => by
    rw [Array.getD_eq_getD_getElem?, List.getD_eq_getElem?_getD]; simp
  rw [hget, before_eq] at h
  cases ho : ops.toList[j]? with
  | none =>
    have hj : ops.toList.length ≤ j := by simpa using ho
    rw [Array.getD_eq_getD_getElem?, Array.getElem?_eq_none (by rw [befF_size]; simpa using hj)] at h
    simp at h
  | some o =>
    have ho' : ops[j]? = some o := by simpa using ho
    have hj : j < ops.toList.length := (List.getElem?_eq_some_iff.1 ho).1
    rw [befF_at ho] at h
    unfold befG at h
    rw [← Array.foldl_toList] at h
    rcases foldl_bit _ _ h with h0 | ⟨e, hm, hb, h1⟩
    · simp at h0
    · have hlt := edges_lt he ho' hm hb
      refine ⟨o, e, ho', hm, hb, hlt, ?_⟩
      rcases h1 with h1 | h1
      · exact .inl h1
      · right
        rw [befF_take hlt (by omega)] at h1
        rw [hget, before_eq]; exact h1

/-- What is listed is closed. -/
def Shut (ops : Array Oper) (L : Array Bool) : Prop := ∀ j o, ops[j]? = some o → L.getD j false = true → ∀ e ∈ o.after.toList, Region.binds .any e = true → L.getD e.on false = true

theorem shut_ordered (he : edgesOk ops = true) {L : Array Bool} (hs : Shut ops L) {i : Nat} : ∀ j, (∀ o, ops[j]? = some o → ∀ e ∈ o.after.toList, Region.binds .any e = true → L.getD e.on false = true) → ordered (Region.before ops).toList i j = true → L.getD i false = true := by
  intro j
  induction j using Nat.strongRecOn with
  | _ j ih =>
    intro hj h
    obtain ⟨o, e, ho, hm, hb, hlt, h1⟩ := ordered_edge he h
    have hl := hj o ho e hm hb
    rcases h1 with rfl | h1
    · exact hl
    · exact ih e.on hlt (fun o' ho' e' hm' hb' => hs e.on o' ho' hl e' hm' hb') h1

theorem shut_closed (he : edgesOk ops = true) {L : Array Bool} (hs : Shut ops L) : Closed (Region.before ops).toList (fun i => L.getD i false) := fun _ j _ ho hj =>
  shut_ordered he hs j (fun o h e hm hb => hs j o h hj e hm hb) ho

theorem ready_spec {L : Array Bool} {i : Nat} (hi : i ∈ Region.ready .any ops L) : i < ops.size ∧ L.getD i true = false ∧ ∃ o, ops[i]? = some o ∧ ∀ e ∈ o.after.toList, Region.binds .any e = true → L.getD e.on false = true := by
  unfold Region.ready at hi
  rw [List.mem_filter] at hi
  obtain ⟨h1, h2⟩ := hi
  simp only [Bool.and_eq_true] at h2
  refine ⟨by simpa using h1, by simpa using h2.1, ?_⟩
  have h3 := h2.2
  cases ho : ops[i]? with
  | none => rw [ho] at h3; simp at h3
  | some o =>
    rw [ho] at h3
    simp only [Option.map_some, Option.getD_some, Array.all_eq_true'] at h3
    refine ⟨o, rfl, fun e hm hb => ?_⟩
    have := h3 e (by simpa using hm)
    rw [hb] at this
    simpa using this

theorem getD_in {L : Array Bool} {i : Nat} (h : i < L.size) : L.getD i true = L.getD i false := by
  rw [Array.getD_eq_getD_getElem?, Array.getD_eq_getD_getElem?, Array.getElem?_eq_getElem h]; rfl

theorem ready_ready (he : edgesOk ops = true) {L : Array Bool} (hs : Shut ops L) (hl : L.size = ops.size) {i : Nat} (hi : i ∈ Region.ready .any ops L) : Ready (Region.before ops).toList (fun i => L.getD i false) i := by
  obtain ⟨h1, h2, o, h3, h4⟩ := ready_spec hi
  have hno : L.getD i false = false := by rw [← getD_in (by omega)]; exact h2
  refine ⟨hno, fun j _ ho => ?_, fun j _ ho => ?_⟩
  · exact shut_ordered he hs i (fun o' ho' e hm hb => by rw [h3] at ho'; injection ho' with ho'; subst ho'; exact h4 e hm hb) ho
  · cases hj : L.getD j false with
    | false => rfl
    | true =>
      have := shut_ordered he hs j (fun o' h e hm hb => hs j o' h hj e hm hb) ho
      rw [hno] at this; cases this

theorem set_getD (L : Array Bool) (i j : Nat) (hi : i < L.size) : (L.setIfInBounds i true).getD j false = (L.getD j false || decide (j = i)) := by
  rw [Array.getD_eq_getD_getElem?, Array.getD_eq_getD_getElem?, Array.getElem?_setIfInBounds]
  by_cases h : i = j
  · subst h; simp [hi]
  · have : ¬ j = i := fun e => h e.symm
    simp [h, this]

theorem shut_set {L : Array Bool} (hs : Shut ops L) (hl : L.size = ops.size) {i : Nat} (hi : i ∈ Region.ready .any ops L) : Shut ops (L.setIfInBounds i true) := by
  obtain ⟨h1, h2, o, h3, h4⟩ := ready_spec hi
  intro j o' ho' hj e hm hb
  rw [set_getD _ _ _ (by omega)] at hj ⊢
  rw [Bool.or_eq_true] at hj ⊢
  rcases hj with hj | hj
  · exact .inl (hs j o' ho' hj e hm hb)
  · simp only [decide_eq_true_eq] at hj; subst hj
    rw [h3] at ho'; injection ho' with ho'; subst ho'
    exact .inl (h4 e hm hb)

/-- Nothing ready: all are listed. -/
theorem none_ready (he : edgesOk ops = true) {L : Array Bool} (hl : L.size = ops.size) (h : Region.ready .any ops L = []) : ∀ i, i < ops.size → L.getD i false = true := by
  intro i
  induction i using Nat.strongRecOn with
  | _ i ih =>
    intro hi
    cases hx : L.getD i false with
    | true => rfl
    | false =>
      exfalso
      have : i ∈ Region.ready .any ops L := by
        unfold Region.ready
        rw [List.mem_filter]
        refine ⟨by simpa using hi, ?_⟩
        simp only [Bool.and_eq_true]
        refine ⟨by rw [getD_in (by omega), hx]; rfl, ?_⟩
        rw [Array.getElem?_eq_getElem hi]
        simp only [Option.map_some, Option.getD_some, Array.all_eq_true']
        intro e hm
        cases hb : Region.binds .any e with
        | false => rfl
        | true =>
          have hlt := edges_lt he (Array.getElem?_eq_getElem hi) (by simpa using hm) hb
          rw [ih e.on hlt (by omega)]; rfl
      rw [h] at this; cases this

theorem countP_lt {p q : Nat → Bool} : ∀ (l : List Nat), (∀ x ∈ l, q x = true → p x = true) → ∀ x ∈ l, p x = true → q x = false → l.countP q < l.countP p
  | [], _, x, hx, _, _ => by cases hx
  | y :: l, h, x, hx, h1, h2 => by
    simp only [List.countP_cons]
    have hle : l.countP q ≤ l.countP p := List.countP_mono_left fun z hz => h z (List.mem_cons_of_mem _ hz)
    rcases List.mem_cons.1 hx with rfl | hx
    · rw [h1, h2]; simp; omega
    · have := countP_lt l (fun z hz => h z (List.mem_cons_of_mem _ hz)) x hx h1 h2
      have hy := h y List.mem_cons_self
      cases hq : q y with
      | false => simp; omega
      | true => rw [hy hq]; simp; omega

def left (ops : Array Oper) (L : Array Bool) : Nat := (List.range ops.size).countP fun i => !L.getD i false

theorem left_set {L : Array Bool} (hl : L.size = ops.size) {i : Nat} (hi : i ∈ Region.ready .any ops L) : left ops (L.setIfInBounds i true) < left ops L := by
  obtain ⟨h1, h2, _⟩ := ready_spec hi
  unfold left
  refine countP_lt _ (fun x _ hx => ?_) i (by simpa using h1) ?_ ?_
  · rw [set_getD _ _ _ (by omega)] at hx
    simp only [Bool.not_eq_true', Bool.or_eq_false_iff] at hx ⊢
    exact hx.1
  · rw [← getD_in (by omega), h2]; rfl
  · rw [set_getD _ _ _ (by omega)]; simp

theorem left_zero {L : Array Bool} (hl : L.size = ops.size) (h : left ops L = 0) : Region.ready .any ops L = [] := by
  cases hr : Region.ready .any ops L with
  | nil => rfl
  | cons i r =>
    have := left_set hl (i := i) (by rw [hr]; exact List.mem_cons_self)
    omega
end
end Wab
/- Drawn regions are sound. -/
namespace Wab
open Go

theorem trOpers_get {P : Program} {lm : Locs} {lits : List Nat} {nt : Nat} {pu : Nat → Bool} {all : Array Oper} : ∀ (os : List Oper) (l : List AOper), trOpers P lm lits nt pu all os = some l → l.length = os.length ∧ ∀ (k : Nat) (o : Oper), os[k]? = some o → ∃ x, l[k]? = some x ∧ OperTr P lm lits nt pu all o x
  | [], l, h => by simp [trOpers] at h; subst h; exact ⟨rfl, fun k o hk => by simp at hk⟩
  | o :: os, l, h => by
    obtain ⟨x, r, rfl, h1, h2⟩ := trOpers_cons h
    obtain ⟨e, g⟩ := trOpers_get os r h2
    refine ⟨by simp [e], fun k o' hk => ?_⟩
    cases k with
    | zero => simp at hk; subst hk; exact ⟨x, rfl, h1⟩
    | succ k => simpa using g k o' (by simpa using hk)

def Ctx.reserve (C : Ctx) (m : Nat) : Ctx := { C with σ := C.σ.reserve m }

theorem reserve_V (C : Ctx) (m : Nat) : V C (C.reserve m) := ⟨fun _ h => h, fun _ _ h => h, fun _ _ => ⟨Nat.le_refl _, fun _ => ⟨rfl, Nat.le_refl _, rfl⟩⟩, fun _ _ h1 h2 => ⟨rfl, h1, h2⟩⟩

theorem reserve_H {C : Ctx} (h : HRel C) (m : Nat) : HRel (C.reserve m) := by
  refine ⟨fun id hi => ?_, fun id hi => ?_, fun i j hi hj => h.inj i j hi hj, fun i hi => h.free i hi, fun b hb => h.small b hb, ?_⟩
  · obtain ⟨b, g, r⟩ := h.here id hi
    exact ⟨b, g, blockRel_mono (reserve_V C m) rfl r⟩
  · have : C.σ.next + m ≤ id := hi
    exact h.gone id (by omega)
  · have := h.lock
    show C.σ.lock ≤ C.σ.next + m
    omega

theorem reserve_S (C : Ctx) (n m : Nat) (w w' : World) (h1 : w'.os = w.os) (h2 : w'.tape = w.tape) (h3 : w'.output = w.output) : Stp n C w (C.reserve m) w' :=
  ⟨h1, h2, h3, Nat.le_refl _, Nat.le_add_right _ _, reserve_V C m, fun _ _ h => ⟨rfl, h⟩, fun _ _ => Iff.rfl, rfl, fun _ _ => ⟨rfl, rfl⟩⟩

section
variable {P : Program} {n nt : Nat}

theorem drawn_any {O : Oracle} (hO : OSound P O) {lm : Locs} {lits : List Nat} {pu : Nat → Bool} (hp : PureOk pu O) {ops : Array Oper} {l : List AOper} (ht : trOpers P lm lits nt pu ops ops.toList = some l) (he : edgesOk ops = true)
    {base : Nat} {rs : List Rec} {s0 s' : St} (hc : Chain O base rs s0 s') (hlen : rs.length = l.length) (hro : ∀ k r, rs[k]? = some r → r.i = 0 + k ∧ l[k]? = some r.o) (hm : commuteAll O (Region.before ops).toList rs = true)
    {C0 : Ctx} {w0 : World} {Q : Exit → Act → World → Prop} (hq : ∀ a' w' C' Lm', Inv n nt C' Lm' s' a' w' → Stp n C0 w0 C' w' → Q .normal a' w') :
    ∀ (fuel : Nat) (L : Array Bool) (a : Act) (w : World) (C : Ctx) (Lm : Nat → Option Nat), L.size = ops.size → Shut ops L → left ops L ≤ fuel → Inv n nt C Lm (stS base (fun i => L.getD i false) rs s0) a w → Stp n C0 w0 C w →
      wpAny P .any ops Q fuel L a w := by
  have hidx : Idx 0 rs := fun k r hk => (hro k r hk).1
  obtain ⟨hll, hget⟩ := trOpers_get _ _ ht
  have hn : rs.length = ops.size := by rw [hlen, hll]; simp
  have done : ∀ (L : Array Bool) (a : Act) (w : World) (C : Ctx) (Lm : Nat → Option Nat), L.size = ops.size → Region.ready .any ops L = [] → Inv n nt C Lm (stS base (fun i => L.getD i false) rs s0) a w → Stp n C0 w0 C w → Q .normal a w := by
    intro L a w C Lm hL hr i st
    have hall := none_ready he hL hr
    have e : stS base (fun i => L.getD i false) rs s0 = s' := stS_all rs s0 s' _ hc fun r hrr => hall r.i (by have := (hidx.mem hrr).2; omega)
    rw [e] at i
    exact hq a w C Lm i st
  intro fuel
  induction fuel with
  | zero =>
    intro L a w C Lm hL hs hf i st
    have hr := left_zero hL (by omega)
    exact ⟨hr, done L a w C Lm hL hr i st⟩
  | succ fuel ih =>
    intro L a w C Lm hL hs hf i st
    refine ⟨fun hr => done L a w C Lm hL hr i st, fun k hk => ?_⟩
    obtain ⟨k1, _, o, ho, _⟩ := ready_spec hk
    have hrd := ready_ready he hs hL hk
    have hcl := shut_closed he hs
    obtain ⟨x, hx, t1, t2, t3, t4⟩ := hget k o (by simpa using ho)
    have hkr : k < rs.length := by omega
    have hr := List.getElem?_eq_getElem hkr
    generalize rs[k] = r at hr
    have hrm : r ∈ rs := List.mem_of_getElem? hr
    obtain ⟨q1, q2⟩ := hro k r hr
    have q1' : r.i = k := by omega
    subst q1'
    rw [hx] at q2
    injection q2 with q2
    subst q2
    have hg := at_guard hc hidx hm hrm hrd
    have hw := guard_ok i t4 hg
    have next : (fun j => (L.setIfInBounds r.i true).getD j false) = fun j => (fun i => L.getD i false) j || decide (j = r.i) := by
      funext j; exact set_getD L r.i j (by omega)
    have hL' : (L.setIfInBounds r.i true).size = ops.size := by simp [hL]
    have hs' := shut_set hs hL hk
    have hf' : left ops (L.setIfInBounds r.i true) ≤ fuel := by have := left_set hL hk; omega
    unfold wpOp
    rw [ho]
    simp only [hw]
    cases hrw : r.w with
    | false =>
      simp only [Bool.false_eq_true, if_false]
      have i2 := i.skipped t3
      rw [← t2, at_skip hidx hm hrm hrd hrw, ← next] at i2
      rw [← t2]
      exact ih _ _ _ _ _ hL' hs' hf' i2 st
    | true =>
      simp only [if_true]
      obtain ⟨s1, z1, z2⟩ := at_ready hc hidx hm hrm hcl hrd hrw
      refine .inl (opD_ok i hO hp t1 z1 _ Q fun a1 v w1 C1 Lm1 i1 tr1 st1 => ?_)
      have i2 := i1.put o.dst t3 tr1
      rw [← t2, z2, ← next] at i2
      rw [← t2]
      exact ih _ _ _ _ _ hL' hs' hf' i2 (st.trans st1)

/-- A drawn region. -/
theorem drawn_ok (hm : P.follows .mixedOrders = true) {O : Oracle} {lm : Locs} {lits : List Nat} {nt : Nat} {pu : Nat → Bool} (hO : OSound P O) (hp : PureOk pu O) : DrawnOk P O lm lits nt pu := by
  intro n id ops l ht he k s s' e hx C Lm a w i Q hq
  simp only [aexec] at hx
  split at hx
  · rename_i s1 hs1
    simp only [Option.some.injEq, Prod.mk.injEq] at hx
    obtain ⟨rfl, rfl⟩ := hx
    unfold arunD at hs1
    split at hs1
    · rename_i rs s2 hrs
      cases hcm : commuteAll O (Region.before ops).toList rs with
      | false => rw [hcm] at hs1; cases hs1
      | true =>
        rw [hcm] at hs1
        injection hs1 with hs1; subst hs1
        obtain ⟨c1, c2, c3⟩ := arunT_chain _ _ _ _ _ hrs
        refine wp_region_any hm ?_
        have hS0 : ∀ j, (Array.replicate ops.size false).getD j false = false := fun j => by
          rw [Array.getD_eq_getD_getElem?, Array.getElem?_replicate]; split <;> rfl
        have i0 : Inv n nt (C.reserve l.length) Lm { s with h := s.h.reserve l.length } a { w with drawn := w.drawn + 1 } := by
          refine i.step (w' := { w with drawn := w.drawn + 1 }) (reserve_V C l.length) (reserve_H i.hr _) (Nat.le_refl _) i.heap ?_ (fun d b hb => ⟨rfl, (i.lb d b hb).2.2⟩)
          rw [← i.σ]; rfl
        refine drawn_any hO hp ht he c1 c2 c3 hcm (C0 := C) (w0 := w) (fun a' w' C' Lm' i' st' => hq a' w' C' Lm' i' st') ops.size _ a _ (C.reserve l.length) Lm (by simp) (fun j o ho hj => by rw [hS0] at hj; cases hj) ?_ ?_ (reserve_S C n _ w _ rfl rfl rfl)
        · unfold left
          exact Nat.le_trans List.countP_le_length (by simp)
        · rw [stS_none rs _ fun r _ => hS0 r.i]
          exact i0
    · cases hs1
  · cases hx

theorem allDrawn (hm : P.follows .mixedOrders = true) : AllDrawn P := fun _ _ _ _ _ hO hp => drawn_ok hm hO hp
end
end Wab
/- More fuel, a greater oracle: what came comes again. -/
namespace Wab
open Go

def Le (C C' : Oracle) : Prop := ∀ f a h r, C f a h = some r → C' f a h = some r

theorem Le.refl (C : Oracle) : Le C C := fun _ _ _ _ h => h

section
variable {C C' : Oracle}

theorem aop_le (hc : Le C C') (s : St) (op : AOp) (r : AVal × St) (h : aop C s op = some r) : aop C' s op = some r := by
  cases op
  case call pu f as =>
    simp only [aop] at h ⊢
    cases hv : nlAll s.t as with
    | none => rw [hv] at h; cases h
    | some vs =>
      rw [hv] at h
      simp only at h ⊢
      cases hz : callA C s (evalO s.t f) vs with
      | none => rw [hz] at h; cases h
      | some p =>
        obtain ⟨v, h'⟩ := p
        have hk : callA C' s (evalO s.t f) vs = some (v, h') := by
          unfold callA at hz ⊢
          split at hz
          · exact hc _ _ _ _ hz
          · cases hz
        rw [hz] at h
        rw [hk]
        exact h
  all_goals exact h

theorem aopD_le (hc : Le C C') (id : Nat) (s : St) (op : AOp) (r : AVal × St) (h : aopD C id s op = some r) : aopD C' id s op = some r := by
  by_cases c1 : ∃ ty z, op = .allocH ty z
  · obtain ⟨ty, z, rfl⟩ := c1; exact h
  · by_cases c2 : ∃ ty x, op = .boxH ty x
    · obtain ⟨ty, x, rfl⟩ := c2; exact h
    · have n1 : ∀ ty z, op ≠ .allocH ty z := fun ty z e => c1 ⟨ty, z, e⟩
      have n2 : ∀ ty x, op ≠ .boxH ty x := fun ty x e => c2 ⟨ty, x, e⟩
      rw [aopD_plain n1 n2] at h ⊢
      exact aop_le hc s _ r h

theorem arun_le (hc : Le C C') : ∀ (os : List AOper) (s : St) (r : St), arun C os s = some r → arun C' os s = some r
  | [], _, _, h => h
  | o :: os, s, r, h => by
    unfold arun at h ⊢
    split at h
    · cases h
    · rename_i hg
      try simp only [hg]
      exact arun_le hc os _ r h
    · rename_i hg
      try simp only [hg]
      split at h
      · cases h
      · rename_i v s1 hz
        rw [aop_le hc _ _ _ hz]
        exact arun_le hc os _ r h

theorem arunT_le (hc : Le C C') (base : Nat) : ∀ (os : List AOper) (i : Nat) (s : St) (r : List Rec × St), arunT C base i os s = some r → arunT C' base i os s = some r
  | [], _, _, _, h => h
  | o :: os, i, s, r, h => by
    unfold arunT at h ⊢
    split at h
    · cases h
    · rename_i hg
      try simp only [hg]
      split at h
      · rename_i rs s1 h1
        rw [arunT_le hc base os _ _ _ h1]; exact h
      · cases h
    · rename_i hg
      try simp only [hg]
      split at h
      · cases h
      · rename_i v s1 hz
        rw [aopD_le hc _ _ _ _ hz]
        try simp only
        split at h
        · rename_i rs s2 h1
          rw [arunT_le hc base os _ _ _ h1]; exact h
        · cases h

theorem sameV_le (hc : Le C C') (s : St) (op : AOp) (v : AVal) (h : sameV (aop C s op) v = true) : sameV (aop C' s op) v = true := by
  cases hz : aop C s op with
  | none => rw [hz] at h; cases h
  | some p => rw [hz] at h; rw [aop_le hc _ _ _ hz]; exact h

theorem lookH_le (hc : Le C C') (x y : Rec) (h : lookH C x y = true) : lookH C' x y = true := by
  unfold lookH at h ⊢
  simp only [Bool.and_eq_true] at h ⊢
  exact ⟨sameV_le hc _ _ _ h.1, sameV_le hc _ _ _ h.2⟩
theorem lookL_le (hc : Le C C') (x y : Rec) (h : lookL C x y = true) : lookL C' x y = true := by
  unfold lookL at h ⊢
  simp only [Bool.and_eq_true] at h ⊢
  exact ⟨sameV_le hc _ _ _ h.1, sameV_le hc _ _ _ h.2⟩

theorem heapOk_le (hc : Le C C') (x y : Rec) (a b : Nat) (h : heapOk C x y a b = true) : heapOk C' x y a b = true := by
  unfold heapOk at h ⊢
  split at h <;> first | rfl | exact lookH_le hc _ _ h | cases h
theorem boxOk_le (hc : Le C C') (x y : Rec) (a b : Nat) (h : boxOk C x y a b = true) : boxOk C' x y a b = true := by
  unfold boxOk at h ⊢
  split at h <;> first | rfl | exact lookL_le hc _ _ h | cases h

theorem commute_le (hc : Le C C') (x y : Rec) (h : commute C x y = true) : commute C' x y = true := by
  unfold commute at h ⊢
  simp only [Bool.and_eq_true] at h ⊢
  exact ⟨⟨h.1.1, heapOk_le hc _ _ _ _ h.1.2⟩, boxOk_le hc _ _ _ _ h.2⟩

theorem commuteAll_le (hc : Le C C') (b : List Nat) : ∀ rs : List Rec, commuteAll C b rs = true → commuteAll C' b rs = true
  | [], h => h
  | r :: rs, h => by
    simp only [commuteAll, Bool.and_eq_true, List.all_eq_true] at h ⊢
    refine ⟨fun q hq => ?_, commuteAll_le hc b rs h.2⟩
    have := h.1 q hq
    rw [Bool.or_eq_true] at this ⊢
    exact this.imp id (commute_le hc _ _)

theorem arunD_le (hc : Le C C') (b : List Nat) (ops : List AOper) (s r : St) (h : arunD C b ops s = some r) : arunD C' b ops s = some r := by
  unfold arunD at h ⊢
  split at h
  · rename_i rs s1 h1
    rw [arunT_le hc _ _ _ _ _ h1]
    cases hm : commuteAll C b rs with
    | false => rw [hm] at h; cases h
    | true => rw [hm] at h; simp only [commuteAll_le hc b rs hm]; exact h
  · cases h

theorem loopN_le {f g : St → Option (AExit × St)} (hfg : ∀ s r, f s = some r → g s = some r) : ∀ (n m : Nat) (s : St) (r : AExit × St), n ≤ m → loopN f n s = some r → loopN g m s = some r
  | 0, _, _, _, _, h => by cases h
  | n + 1, 0, _, _, hle, _ => by omega
  | n + 1, m + 1, s, r, hle, h => by
    unfold loopN at h ⊢
    cases hf : f s with
    | none => rw [hf] at h; cases h
    | some p =>
      obtain ⟨e, s1⟩ := p
      rw [hf] at h; rw [hfg _ _ hf]
      cases e with
      | normal => exact loopN_le hfg n m s1 r (by omega) h
      | exit i => exact h
      | ret => exact h

theorem aexec_le (hc : Le C C') {n m : Nat} (hn : n ≤ m) : ∀ (c : ACode) (s : St) (r : AExit × St), aexec C n c s = some r → aexec C' m c s = some r
  | .skip, _, _, h => h
  | .region ops, s, r, h => by
    simp only [aexec] at h ⊢
    split at h
    · rename_i s1 h1; rw [arun_le hc _ _ _ h1]; exact h
    · cases h
  | .regionD b ops, s, r, h => by
    simp only [aexec] at h ⊢
    split at h
    · rename_i s1 h1; rw [arunD_le hc _ _ _ _ h1]; exact h
    · cases h
  | .seq a b, s, r, h => by
    simp only [aexec] at h ⊢
    cases ha : aexec C n a s with
    | none => rw [ha] at h; cases h
    | some p =>
      obtain ⟨e, s1⟩ := p
      rw [ha] at h; rw [aexec_le hc hn a _ _ ha]
      cases e with
      | normal => exact aexec_le hc hn b _ _ h
      | exit i => exact h
      | ret => exact h
  | .cond c x y, s, r, h => by
    simp only [aexec] at h ⊢
    split at h
    · exact aexec_le hc hn x _ _ h
    · exact aexec_le hc hn y _ _ h
    · cases h
  | .block id b, s, r, h => by
    simp only [aexec] at h ⊢
    cases hb : aexec C n b s with
    | none => rw [hb] at h; cases h
    | some p => rw [hb] at h; rw [aexec_le hc hn b _ _ hb]; exact h
  | .loop b, s, r, h => by
    simp only [aexec] at h ⊢
    exact loopN_le (fun s r => aexec_le hc hn b s r) n m s r hn h
  | .exit _, _, _, h => h
  | .ret, _, _, h => h
  | .bad, _, _, h => h
  | .promote _, _, _, h => h

theorem runDef_le (hc : Le C C') : ∀ (ds : List (AVal × List AVal)) (h r : AHeap), runDef C ds h = some r → runDef C' ds h = some r
  | [], _, _, h => h
  | (f, args) :: ds, h, r, hh => by
    unfold runDef at hh ⊢
    split at hh
    · split at hh
      · rename_i v h1 hz
        rw [hc _ _ _ _ hz]
        exact runDef_le hc ds _ r hh
      · cases hh
    · cases hh

theorem freezeAll_le_of {h : AHeap} {base n m : Nat} (ih : ∀ (deep : Bool) (v r : AVal), freeze h base n deep v = some r → freeze h base m deep v = some r)
    (ih2 : ∀ (deep : Bool) (l r : List AVal), freezeAll h base n deep l = some r → freezeAll h base m deep l = some r) (deep : Bool) : ∀ (l r : List AVal), freezeAll h base (n + 1) deep l = some r → freezeAll h base (m + 1) deep l = some r
  | [], r, hh => by simpa [freezeAll] using hh
  | v :: vs, r, hh => by
    simp only [freezeAll] at hh ⊢
    split at hh
    · rename_i a b h1 h2
      rw [ih _ _ _ h1, ih2 _ _ _ h2]; exact hh
    · cases hh

theorem freeze_le_aux (h : AHeap) (base : Nat) : ∀ (n m : Nat), n ≤ m → (∀ (deep : Bool) (v r : AVal), freeze h base n deep v = some r → freeze h base m deep v = some r) ∧ (∀ (deep : Bool) (l r : List AVal), freezeAll h base n deep l = some r → freezeAll h base m deep l = some r)
  | 0, _, _ => ⟨fun d v r hh => by simp [freeze] at hh, fun d l r hh => by simp [freezeAll] at hh⟩
  | n + 1, 0, hn => by omega
  | n + 1, m + 1, hn => by
    obtain ⟨ih1, ih2⟩ := freeze_le_aux h base n m (by omega)
    refine ⟨fun deep v r hh => ?_, fun deep l r hh => freezeAll_le_of ih1 ih2 deep l r hh⟩
    cases v <;> simp only [freeze] at hh ⊢ <;> try exact hh
    case iface t x =>
      split at hh
      · rename_i y hy; rw [ih1 _ _ _ hy]; exact hh
      · cases hh
    case agg cs =>
      split at hh
      · rename_i y hy; rw [ih2 _ _ _ hy]; exact hh
      · cases hh
    case tup cs =>
      split at hh
      · rename_i y hy; rw [ih2 _ _ _ hy]; exact hh
      · cases hh
    case sl id ver off len cap e =>
      cases hb : Nat.blt id base with
      | true => rw [hb] at hh; exact hh
      | false =>
        rw [hb] at hh
        simp only [cond_false] at hh ⊢
        split at hh
        · split at hh
          · split at hh
            · rename_i c' hc'
              rw [ih2 _ _ _ hc']; exact hh
            · cases hh
          · cases hh
        · cases hh

theorem freeze_le {h : AHeap} {base n m : Nat} (hn : n ≤ m) {deep : Bool} {v r : AVal} (hh : freeze h base n deep v = some r) : freeze h base m deep v = some r := (freeze_le_aux h base n m hn).1 _ _ _ hh

theorem runFn_le {D D' : Oracle} (hc : Le C C') (hd : Le D D') {n m : Nat} (hn : n ≤ m) {fn : AFunc} {args : List AVal} {h : AHeap} {r : AVal × AHeap} (hr : runFn C D n fn args h = some r) : runFn C' D' m fn args h = some r := by
  unfold runFn at hr ⊢
  split at hr
  · rename_i he
    have hb : ∀ s, runBody C n fn args h = some s → runBody C' m fn args h = some s := by
      intro s hs
      unfold runBody at hs ⊢
      split at hs
      · rename_i s1 h1; rw [aexec_le hc hn _ _ _ h1]; exact hs
      · rename_i s1 h1; rw [aexec_le hc hn _ _ _ h1]; exact hs
      · cases hs
    split at hr
    · rename_i s hs
      rw [hb s hs]
      try simp only
      split at hr
      · rename_i h2 hdd
        rw [runDef_le hd _ _ _ hdd]
        try simp only
        unfold finish at hr ⊢
        split at hr
        · cases hr
        · rename_i vs hvs
          try simp only
          cases hp : fn.pure with
          | false => rw [hp] at hr; exact hr
          | true =>
            rw [hp] at hr
            simp only [cond_true] at hr ⊢
            split at hr
            · rename_i v hv; rw [freeze_le hn hv]; exact hr
            · cases hr
      · cases hr
    · cases hr
  · exact hr
  · exact hr
  · exact hr

theorem runFn0_le (hc : Le C C') {n m : Nat} (hn : n ≤ m) {fn : AFunc} {args : List AVal} {h : AHeap} {r : AVal × AHeap} (hr : runFn0 C n fn args h = some r) : runFn0 C' m fn args h = some r := by
  unfold runFn0 at hr ⊢
  split at hr
  · have hb : ∀ s, runBody C n fn args h = some s → runBody C' m fn args h = some s := by
      intro s hs
      unfold runBody at hs ⊢
      split at hs
      · rename_i s1 h1; rw [aexec_le hc hn _ _ _ h1]; exact hs
      · rename_i s1 h1; rw [aexec_le hc hn _ _ _ h1]; exact hs
      · cases hs
    split at hr
    · rename_i s hs
      rw [hb s hs]
      try simp only
      split at hr
      · unfold finish at hr ⊢
        split at hr
        · cases hr
        · rename_i vs hvs
          try simp only
          cases hp : fn.pure with
          | false => rw [hp] at hr; exact hr
          | true =>
            rw [hp] at hr
            simp only [cond_true] at hr ⊢
            split at hr
            · rename_i v hv; rw [freeze_le hn hv]; exact hr
            · cases hr
      · cases hr
    · cases hr
  · cases hr
end

theorem acall0_le {P : Tr AFunc} {C C' : Oracle} (hc : Le C C') {n m : Nat} (hn : n ≤ m) : Le (acall0 P C n) (acall0 P C' m) := by
  intro f a h r hr
  unfold acall0 at hr ⊢
  split at hr
  · rename_i fn hf; exact runFn0_le hc hn hr
  · cases hr

theorem acallS_le {P : Tr AFunc} {S : Known} : ∀ (n m : Nat), n ≤ m → Le (acallS P S n) (acallS P S m)
  | 0, _, _ => fun f a h r hr => by simp [acallS] at hr
  | n + 1, 0, hn => by omega
  | n + 1, m + 1, hn => fun f a h r hr => by
    have ih := acallS_le (P := P) (S := S) n m (by omega)
    unfold acallS at hr ⊢
    split at hr
    · rename_i g hg; exact hr
    · rename_i hg
      split at hr
      · rename_i fn hf
        exact runFn_le ih (acall0_le ih (by omega)) (by omega) hr
      · cases hr
end Wab
/- What a function does that looks at no block of the abstract heap's is known wherever it is called. -/
namespace Wab
open Go

mutual
/-- No part of it is a place. -/
def flatV : AVal → Bool
  | .bool _ | .int _ _ | .str _ | .nilp | .nils | .nilm | .nilf | .nili | .gptr _ _ => true
  | .iface _ x => flatV x
  | .agg cs => flatVs cs
  | .tup cs => flatVs cs
  | _ => false
def flatVs : List AVal → Bool
  | [] => true
  | x :: xs => flatV x && flatVs xs
end

mutual
theorem vrel_flat {C C' : Ctx} : ∀ (x : AVal) (v : Value), flatV x = true → vrel C x v → vrel C' x v
  | .bool _, _, _, r | .int _ _, _, _, r | .str _, _, _, r | .nilp, _, _, r | .nils, _, _, r | .nilm, _, _, r | .nilf, _, _, r | .nili, _, _, r | .gptr _ _, _, _, r => by simpa [vrel] using r
  | .iface t x, v, h, r => by
    simp only [flatV] at h
    simp only [vrel] at r ⊢
    obtain ⟨y, hv, h1⟩ := r
    exact ⟨y, hv, vrel_flat x y h h1⟩
  | .agg cs, v, h, r => by
    simp only [flatV] at h
    simp only [vrel] at r ⊢
    obtain ⟨h0, a, hv, h1⟩ := r
    exact ⟨h0, a, hv, vrels_flat cs _ h h1⟩
  | .tup cs, v, h, r => by
    simp only [flatV] at h
    simp only [vrel] at r ⊢
    obtain ⟨a, hv, h1⟩ := r
    exact ⟨a, hv, vrels_flat cs _ h h1⟩
  | .dead, _, h, _ | .ptr _ _ _, _, h, _ | .loc _ _, _, h, _ | .iptr _ _, _, h, _ | .imm _ _ _, _, h, _ | .sl _ _ _ _ _ _, _, h, _ | .mp _, _, h, _ | .func _ _ _, _, h, _ => by simp [flatV] at h
theorem vrels_flat {C C' : Ctx} : ∀ (xs : List AVal) (vs : List Value), flatVs xs = true → vrels C xs vs → vrels C' xs vs
  | [], [], _, _ => by simp [vrels]
  | [], _ :: _, _, r => by simp [vrels] at r
  | _ :: _, [], _, r => by simp [vrels] at r
  | x :: xs, v :: vs, h, r => by
    simp only [flatVs, Bool.and_eq_true] at h
    simp only [vrels] at r ⊢
    exact ⟨vrel_flat x v h.1 r.1, vrels_flat xs vs h.2 r.2⟩
end

def h00 : AHeap := ⟨0, 0, .lf⟩

/-- A context without an abstract heap; X: what nobody may look at as a list. -/
def Ctx.bare (C : Ctx) (X : Nat → Prop) : Ctx := { σ := h00, H := C.H, mu := C.mu, F := X }

section
variable {C : Ctx} {X : Nat → Prop}

theorem bare_live {id : Nat} : ¬ (C.bare X).live id := by
  unfold Ctx.live Ctx.bare h00
  simp [Tr.get]

theorem bare_own {b : Nat} : ¬ (C.bare X).Own b := fun ⟨_, h, _⟩ => bare_live h

theorem bare_H (hX : ∀ b, X b → b < C.H.size) : HRel (C.bare X) :=
  ⟨fun _ h => absurd h bare_live, fun _ _ => rfl, fun _ _ h => absurd h bare_live, fun _ h => absurd h bare_live, fun b hb => hX b hb, Nat.le_refl _⟩

/-- The abstract heap laid back behind a call that knew nothing of it. -/
theorem bare_back (h : HRel C) (_hX : ∀ b, X b → b < C.H.size) {C' : Ctx} {w w' : World} (_h' : HRel C') (st : Stp C.H.size (C.bare X) w C' w') (_hF : ∀ b, C.F b → X b) : HRel (C.back C') ∧ Stp C.H.size C w (C.back C') w' := by
  have old : ∀ b, b < C.H.size → C'.H[b]? = C.H[b]? := fun b hb => (st.old b hb bare_own).1
  have hs : C.H.size ≤ C'.H.size := st.size
  have hV : V C (C.back C') := by
    refine ⟨fun _ h => h, fun _ _ h => h, fun id hi => ⟨Nat.le_refl _, fun _ => ⟨rfl, Nat.le_refl _, ?_⟩⟩, fun b hb h1 h2 => ⟨old b hb, h1, h2⟩⟩
    simp only [Ctx.asize, Ctx.back, sizeH]
    rw [old _ (h.blk_lt hi)]
  refine ⟨⟨fun id hi => ?_, fun id hi => h.gone id hi, fun i j hi hj => h.inj i j hi hj, fun i hi => h.free i hi, fun b hb => Nat.lt_of_lt_of_le (h.small b hb) hs, h.lock⟩, st.os, st.tape, st.output, hs, Nat.le_refl _, hV, fun b hb ho => ⟨old b hb, ho⟩, fun _ _ => Iff.rfl, rfl, fun _ _ => ⟨rfl, rfl⟩⟩
  obtain ⟨b, g, r⟩ := h.here id hi
  exact ⟨b, g, blockRel_mono hV (old _ (h.blk_lt hi)) r⟩
end

mutual
/-- What leans on no block of the abstract heap's reads the same without it. -/
theorem vrel_hid {C : Ctx} : ∀ (x : AVal) (v : Value), vrel C x v → idsIn (fun _ => False) x → vrel (C.bare fun b => C.F b ∨ C.Own b) x v
  | .dead, _, _, _ => by simp [vrel]
  | .bool _, _, r, _ | .int _ _, _, r, _ | .str _, _, r, _ | .nilp, _, r, _ | .nils, _, r, _ | .nilm, _, r, _ | .nilf, _, r, _ | .nili, _, r, _ | .gptr _ _, _, r, _ => by simpa [vrel] using r
  | .iptr x off, v, r, _ => by
    simp only [vrel] at r ⊢
    obtain ⟨b, o, hv, hc⟩ := r
    exact ⟨b, o, hv, cellsAt_hid x b o hc⟩
  | .imm e xs ex, v, r, _ => by
    simp only [vrel] at r ⊢
    obtain ⟨b, o, cap, sp, hv, h0, h1, h2, hc⟩ := r
    exact ⟨b, o, cap, sp, hv, h0, h1, h2, elemsAt_hid xs e b o hc⟩
  | .func fn f c, v, r, h => by
    simp only [idsIn] at h
    simp only [vrel] at r ⊢
    obtain ⟨f', c', hv, h1, h2⟩ := r
    exact ⟨f', c', hv, vrels_hid h1 h.1, vrels_hid h2 h.2⟩
  | .iface t x, v, r, h => by
    simp only [idsIn] at h
    simp only [vrel] at r ⊢
    obtain ⟨y, hv, h1⟩ := r
    exact ⟨y, hv, vrel_hid x y h1 h⟩
  | .agg cs, v, r, h => by
    simp only [idsIn] at h
    simp only [vrel] at r ⊢
    obtain ⟨h0, a, hv, h1⟩ := r
    exact ⟨h0, a, hv, vrels_hid h1 h⟩
  | .tup cs, v, r, h => by
    simp only [idsIn] at h
    simp only [vrel] at r ⊢
    obtain ⟨a, hv, h1⟩ := r
    exact ⟨a, hv, vrels_hid h1 h⟩
  | .loc _ _, _, r, _ => by simp [vrel] at r
  | .ptr _ _ _, _, _, h | .sl _ _ _ _ _ _, _, _, h | .mp _, _, _, h => by simp [idsIn] at h
theorem vrels_hid {C : Ctx} : ∀ {xs : List AVal} {vs : List Value}, vrels C xs vs → idsAll (fun _ => False) xs → vrels (C.bare fun b => C.F b ∨ C.Own b) xs vs
  | [], [], _, _ => by simp [vrels]
  | [], _ :: _, r, _ => by simp [vrels] at r
  | _ :: _, [], r, _ => by simp [vrels] at r
  | x :: xs, v :: vs, r, h => by
    simp only [idsAll] at h
    simp only [vrels] at r ⊢
    exact ⟨vrel_hid x v r.1 h.1, vrels_hid r.2 h.2⟩
theorem cellsAt_hid {C : Ctx} : ∀ (xs : List AVal) (b o : Nat), cellsAt C b o xs → cellsAt (C.bare fun b => C.F b ∨ C.Own b) b o xs
  | [], _, _, _ => by simp [cellsAt]
  | x :: xs, b, o, r => by
    simp only [cellsAt] at r ⊢
    obtain ⟨⟨h0, h1, ⟨h2, hp⟩, v, h3, h4⟩, h5⟩ := r
    exact ⟨⟨h0, bare_own, ⟨fun h => h.elim h2 h1, hp⟩, v, h3, vrel_hid x v h4 (pureC_ids x hp)⟩, cellsAt_hid xs b (o + 1) h5⟩
theorem elemsAt_hid {C : Ctx} : ∀ (xs : List (List AVal)) (e b o : Nat), elemsAt C e b o xs → elemsAt (C.bare fun b => C.F b ∨ C.Own b) e b o xs
  | [], _, _, _, _ => by simp [elemsAt]
  | x :: xs, e, b, o, r => by
    simp only [elemsAt] at r ⊢
    exact ⟨r.1, cellsAt_hid x b o r.2.1, elemsAt_hid xs e b (o + e) r.2.2⟩
end

/-- A function that answers something flat on the empty heap: whatever stands on it is kept. The lists among the arguments may lie in blocks of the abstract heap's. -/
theorem known_flat {P : Program} {O : Oracle} (hO : OSound P O) {f : Nat} {args : List AVal} {r : AVal} {h1 : AHeap} (hr : O f args h00 = some (r, h1)) (hf : flatV r = true)
    {C : Ctx} {cargs : Array Value} {w : World} (hw : w.heap = C.H) (h0 : HRel C) (ra : vrels (C.bare C.F) args cargs.toList) : CallOk P f cargs w (Post C w r C.σ) := by
  have post : ∀ v w', Post (C.bare C.F) w r h1 v w' → Post C w r C.σ v w' := by
    rintro v w' ⟨C', p1, p2, p3, p4, p5, p6⟩
    obtain ⟨b1, b2⟩ := bare_back h0 h0.small p3 p5 (fun _ h => h)
    exact ⟨C.back C', p1, rfl, b1, vrel_flat _ _ hf p4, b2, fun _ => Iff.rfl⟩
  rcases hO f args h00 r h1 hr (C.bare C.F) cargs w hw rfl (bare_H h0.small) ra with ⟨v, w', q1, q2⟩ | ⟨q1, q2⟩
  · exact .inl ⟨v, w', q1, post v w' q2⟩
  · refine .inr ⟨q1, Calls.mono q2 fun e w' he => ?_⟩
    cases e with
    | returned v => exact post v w' he
    | panicked _ => exact he
    | outgrown => exact he

/-- The same where something is told that leans on no block: then no list among the arguments may lie in one of the abstract heap's. -/
theorem known_bare {P : Program} {O : Oracle} (hO : OSound P O) {f : Nat} {args : List AVal} {r : AVal} {h1 : AHeap} (hr : O f args h00 = some (r, h1)) (hf : idsIn (fun _ => False) r)
    {C : Ctx} {cargs : Array Value} {w : World} (hw : w.heap = C.H) (h0 : HRel C) (ra : vrels C args cargs.toList) (hra : idsAll (fun _ => False) args) : CallOk P f cargs w (Post C w r C.σ) := by
  have hX : ∀ b, (C.F b ∨ C.Own b) → b < C.H.size := fun b hb => hb.elim (h0.small b) h0.own_lt
  have ra' : vrels (C.bare fun b => C.F b ∨ C.Own b) args cargs.toList :=
    vrels_hid ra hra
  have post : ∀ v w', Post (C.bare fun b => C.F b ∨ C.Own b) w r h1 v w' → Post C w r C.σ v w' := by
    rintro v w' ⟨C', p1, p2, p3, p4, p5, p6⟩
    obtain ⟨b1, b2⟩ := bare_back h0 hX p3 p5 (fun _ h => .inl h)
    refine ⟨C.back C', p1, rfl, b1, ?_, b2, fun _ => Iff.rfl⟩
    exact vrel_res (p := fun _ => False) (C' := C') (C'' := C.back C') ⟨fun _ h => h.elim, fun _ h => h.elim, fun _ h => h.elim, rfl, fun b hb => .inr ((p6 b).2 (.inr hb)), fun b hb => (p6 b).2 (.inl hb)⟩ r v hf p4
  rcases hO f args h00 r h1 hr (C.bare fun b => C.F b ∨ C.Own b) cargs w hw rfl (bare_H hX) ra' with ⟨v, w', q1, q2⟩ | ⟨q1, q2⟩
  · exact .inl ⟨v, w', q1, post v w' q2⟩
  · refine .inr ⟨q1, Calls.mono q2 fun e w' he => ?_⟩
    cases e with
    | returned v => exact post v w' he
    | panicked _ => exact he
    | outgrown => exact he
end Wab
/- The sum of bytes (crc): the table as one number, and what one byte more does to a sum; what the code does, in the abstract interpreter. -/
namespace Wab
open Go

/-- The table: 256 numbers of 32 bits, one behind the other. -/
def crcBig : Nat := 545381279755403058440764349411861587453087532008798869030625940404012690338100289851967117616225094273055250110128947779041410036440541118714986984681636786222561649710232282095088012248754123925657869459440100267615033076728860290875713536997323168481643830755216027924526786424431941477165630882039179359763885564073553940613200610383737617636082996758650902824151542213334405348398291294449294917933182384315526255607887727021688930841740761188279015695173300632552541450825018411259812616131071579138699845023296559324459044103248508118689911395947841566695901420706023839601680084794711697585677568239563844986557596674291831322199377056411831655866214686331374564001501635089264591911900691031430528789288703507961610343000861387237872360585036422993788887124183969814476189607617310522709294722886768949984330711752724541648411104340221317905091326673030479215599497241294690218250109406513289078567335000441009322350245852776671630832516632450052119179168092800628222252968586030592927174046210994556335471302720398790874532698870171119528269993329057110930786381808049059581391236799614118705557292736778829694841790399502843831610657842660163732887584578320425350781675038135003425738834468819811686614263992452418377524159427719278366311520709071097418818772817693604319017476348339552644650952350103719284528232492628702734654824447981466165832156389327259338475483311283348312234947805614343282108190824142391659720382237572678752200179525826302121720704147205299912880182800376705695036969695405218016244234036636451187800491937384383183986132190749778174585530707063067745107189697954450402281845240099324990009040917037182588427475732369483400315985331200251089987699105355850152481563158064471875315292691132836196686572570904673349903144540660999245689356015059304377692002088936505531513144349120546496154017299196218688914793890593400208529040739468694992219394969534439634727815412529710932475966292060522462456571291109914001803699104892276002251580470184055528574805782682439985020065391711005908017109243920272533482756081193996132797551056226550879992351269878944169967829130260240863408585518481590150474487801541083481349151494948958304518158883979333350101800888783523442170232324703964466795174196659511924234162613465716892574009648682215799981818253839505967832953215895850357329316279537864390092131750150079295731447929586283630144080281464484144779769607322065877235674116713764744493091370837421746697559812258162894984989617684480
def crcTab (i : Nat) : Nat := (crcBig >>> (32 * i)) % 4294967296
def crc1 (s c : Nat) : Nat := (s * 256 % 4294967296) ^^^ crcTab ((s / 16777216) ^^^ c)
def crcN : Nat → List Nat → Nat
  | s, [] => s
  | s, c :: cs => crcN (crc1 s c) cs
def crcTabA : List AVal := (List.range 256).map fun i => .int .u32 (.ofNat (crcTab i))

def crcTurnA : AFunc := ⟨false, (.seq (.region [⟨(some 2), (.mv (.const (.int .u32 (.ofNat 0)))), none⟩]) (.seq (.seq (.region [⟨(some 4), (.mv (.const (.int .i64 (.ofNat 0)))), none⟩]) (.block 0 (.loop (.seq (.region [⟨(some 5), (.bin .lss .other (.tmp 4) (.const (.int .i64 (.ofNat 8)))), none⟩]) (.seq (.cond (.tmp 5) .skip (.exit 0)) (.seq (.block 1 (.seq (.region [⟨(some 6), (.mv (.tmp 0)), none⟩, ⟨(some 7), (.bin .shr .other (.tmp 6) (.const (.int .u64 (.ofNat 31)))), none⟩, ⟨(some 3), (.mv (.tmp 7)), none⟩]) (.region [⟨(some 8), (.mv (.tmp 0)), none⟩, ⟨(some 9), (.bin .shl .other (.tmp 8) (.const (.int .u64 (.ofNat 1)))), none⟩, ⟨(some 10), (.mv (.tmp 3)), none⟩, ⟨(some 11), (.bin .mul .other (.tmp 10) (.const (.int .u32 (.ofNat 2168537515)))), none⟩, ⟨(some 12), (.bin .xor .other (.tmp 9) (.tmp 11)), none⟩, ⟨(some 0), (.mv (.tmp 12)), none⟩]))) (.region [⟨(some 13), (.bin .add .other (.tmp 4) (.const (.int .i64 (.ofNat 1)))), none⟩, ⟨(some 4), (.mv (.tmp 13)), none⟩]))))))) (.seq (.region [⟨(some 14), (.mv (.tmp 0)), none⟩, ⟨(some 2), (.mv (.tmp 14)), none⟩]) .ret))), [(.tmp 2)], 0⟩
def crcMadeA (fTurn ty : Nat) : AFunc := ⟨false, (.seq (.region [⟨(some 0), (.mv (.const .nilp)), none⟩]) (.seq (.region [⟨(some 1), (.allocH ty (List.replicate 256 (.int .u32 (.ofNat 0)))), none⟩]) (.seq (.region [⟨(some 2), (.mv (.fn fTurn)), none⟩]) (.seq (.seq (.region [⟨(some 4), (.mv (.const (.int .i64 (.ofNat 0)))), none⟩]) (.block 0 (.loop (.seq (.region [⟨(some 5), (.bin .lss .other (.tmp 4) (.const (.int .i64 (.ofNat 256)))), none⟩]) (.seq (.cond (.tmp 5) .skip (.exit 0)) (.seq (.block 1 (.seq (.region [⟨(some 6), (.mv (.tmp 4)), none⟩, ⟨(some 3), (.mv (.tmp 6)), none⟩]) (.region [⟨(some 7), (.mv (.tmp 3)), none⟩, ⟨(some 8), (.mv (.tmp 2)), none⟩, ⟨(some 9), (.mv (.tmp 3)), none⟩, ⟨(some 10), (.convInt .u32 (.tmp 9)), none⟩, ⟨(some 11), (.bin .shl .other (.tmp 10) (.const (.int .u64 (.ofNat 24)))), none⟩, ⟨(some 12), (.call false (.tmp 8) [(.tmp 11)]), none⟩, ⟨(some 13), (.indexAddrArr 256 1 (.tmp 1) (.tmp 7) 13), none⟩, ⟨none, (.store 1 (.tmp 13) (.tmp 12)), none⟩]))) (.region [⟨(some 14), (.bin .add .other (.tmp 4) (.const (.int .i64 (.ofNat 1)))), none⟩, ⟨(some 4), (.mv (.tmp 14)), none⟩]))))))) (.seq (.region [⟨(some 0), (.mv (.tmp 1)), none⟩]) .ret))))), [(.tmp 0)], 0⟩
def crcBody : ACode := (.seq (.region [⟨(some 12), (.bin .lss .other (.tmp 11) (.tmp 10)), none⟩]) (.seq (.cond (.tmp 12) .skip (.exit 0)) (.seq (.block 1 (.seq (.region [⟨(some 13), (.indexAddrSl 1 (.tmp 9) (.tmp 11)), none⟩, ⟨(some 14), (.load false 1 (.tmp 13)), none⟩, ⟨(some 7), (.mv (.tmp 14)), none⟩]) (.region [⟨(some 15), (.mv (.tmp 0)), none⟩, ⟨(some 16), (.bin .shl .other (.tmp 15) (.const (.int .u64 (.ofNat 8)))), none⟩, ⟨(some 17), (.mv (.tmp 5)), none⟩, ⟨(some 18), (.mv (.tmp 0)), none⟩, ⟨(some 19), (.bin .shr .other (.tmp 18) (.const (.int .u64 (.ofNat 24)))), none⟩, ⟨(some 20), (.convInt .u8 (.tmp 19)), none⟩, ⟨(some 21), (.mv (.tmp 7)), none⟩, ⟨(some 22), (.bin .xor .other (.tmp 20) (.tmp 21)), none⟩, ⟨(some 23), (.nilCheck (.tmp 17)), none⟩, ⟨(some 24), (.indexAddrArr 256 1 (.tmp 23) (.tmp 22) 24), none⟩, ⟨(some 25), (.load false 1 (.tmp 24)), none⟩, ⟨(some 26), (.bin .xor .other (.tmp 16) (.tmp 25)), none⟩, ⟨(some 0), (.mv (.tmp 26)), none⟩]))) (.region [⟨(some 27), (.bin .add .other (.tmp 11) (.const (.int .i64 (.ofNat 1)))), none⟩, ⟨(some 11), (.mv (.tmp 27)), none⟩]))))
def crcMoreA (fMade : Nat) : AFunc := ⟨true, (.seq (.region [⟨(some 4), (.mv (.const (.int .u32 (.ofNat 0)))), none⟩]) (.seq (.region [⟨(some 8), (.call false (.fn fMade) []), none⟩, ⟨(some 5), (.mv (.tmp 8)), none⟩]) (.seq (.seq (.region [⟨(some 9), (.mv (.tmp 1)), none⟩, ⟨(some 10), (.len 1 (.tmp 9)), none⟩, ⟨(some 11), (.mv (.const (.int .i64 (.ofNat 0)))), none⟩]) (.block 0 (.loop crcBody))) (.seq (.region [⟨(some 28), (.mv (.tmp 0)), none⟩, ⟨(some 4), (.mv (.tmp 28)), none⟩]) .ret)))), [(.tmp 4)], 0⟩

def turn1 (n : Int) : Int := wrapI .u32 (BitVec.ofInt IntKind.u32.bits (wrapI .u32 (n * 2 ^ 1)) ^^^ BitVec.ofInt IntKind.u32.bits (wrapI .u32 (n.fdiv (2 ^ 31) * 2168537515))).toNat
def turn8 (n : Int) : Int := turn1 (turn1 (turn1 (turn1 (turn1 (turn1 (turn1 (turn1 n)))))))
set_option maxRecDepth 100000

theorem turn_run (C D : Oracle) (x : Int) (h : AHeap) : runFn C D 12 crcTurnA [.int .u32 x] h = some (.int .u32 (turn8 x), h) := by kernel_rfl

/-- The heap with the table. -/
def crcHeap (ty : Nat) : AHeap := ⟨1, 0, .nd (some (.cells 0 ty crcTabA 0 false)) .lf .lf⟩

theorem get_nd {α : Type} (t : Tr α) (k j : Nat) (v : Option α) : (t.set k v).get j = cond (Nat.beq j k) v (t.get j) := by
  rw [Tr.get_set]; cases h : Nat.beq j k
  · rw [if_neg (Nat.ne_of_beq_eq_false h)]; rfl
  · rw [if_pos (Nat.eq_of_beq_eq_true h)]; rfl

theorem bits_u8 : IntKind.u8.bits = 8 := rfl
theorem bits_u32 : IntKind.u32.bits = 32 := rfl

theorem wrap_u8 (a : Nat) : wrapI .u8 (Int.ofNat a) = Int.ofNat (a % 256) := by
  show IntKind.u8.wrap (a : Int) = _
  simp [IntKind.wrap, IntKind.signed, IntKind.bits]
theorem wrap_u32 (a : Nat) : wrapI .u32 (Int.ofNat a) = Int.ofNat (a % 4294967296) := by
  show IntKind.u32.wrap (a : Int) = _
  simp [IntKind.wrap, IntKind.signed, IntKind.bits]
end Wab
