/- Part 4 of this claim: an abstract interpreter over the model, its soundness, and what is run in it. -/
import Derived.MapKept
import Derived.Deep.AppendSrc
import Derived.Room.Entries
import Derived.Deep.Upon
import Derived.Laws.AppendOwn
import Derived.Laws.MakeOwn
import Derived.Laws.IdiomStrings
import Derived.Test.YthnhpmbmadmmhaaGreatW02
set_option maxRecDepth 20000
set_option linter.unusedSimpArgs false
set_option linter.unusedVariables false
/- Slices of arrays and strings; lengths; min, max; conversions; new slices and maps; iterators over strings. -/
namespace Wab
open Go

section
variable {P : Program} {n nt : Nat} {C : Ctx} {Lm : Nat → Option Nat} {s : St} {a : Act} {w : World}

theorem sliceArr_core (i : Inv n nt C Lm s a w) {o : Oper} {x : Operand} {lo hi mx : Option Operand} {len esz : Nat}
    {y : AOpd} (hx : trOpd x = some y) {lo' hi' mx' : Option AOpd} (h1 : trOO lo = some lo') (h2 : trOO hi = some hi') (h3 : trOO mx = some mx') {z : AVal} (hz : sliceArrA len esz (evalO s.t y) s.h s.t lo' hi' mx' = some z)
    (base : ∀ b q l h m, a.eval x = .pointer (some ⟨b, q, none⟩) → (Instr.sliceBounds false len len (lo.map a.eval) (hi.map a.eval) (mx.map a.eval)).run P w = .ok (l, h, m) w →
      (execOp a.eval o).run P w = .ok (.value (.slice (some (if m = l then ⟨b, q, none⟩ else (⟨b, q, none⟩ : Addr).add (l * esz))) (h - l) (m - l))) w) : OpOk P n nt o C a w s z := by
  generalize hy : evalO s.t y = u at hz
  unfold sliceArrA at hz
  split at hz
  · rename_i id ver off
    have rv := eval_rel i hx hy (by intros; simp)
    simp only [vrel] at rv
    obtain ⟨v1, v2, b, q, v3, v4⟩ := rv
    split at hz
    · rename_i l h m hb
      split at hz
      · rename_i ty cs fz sx hcs
        obtain ⟨hl1, hl2, hl3, _⟩ := block_of i hcs
        cases hc0 : (Nat.blt 0 esz && Nat.ble (off + len * esz) cs.length) with
        | false => rw [hc0] at hz; cases hz
        | true =>
        rw [hc0] at hz
        rw [Bool.and_eq_true] at hc0
        have h0 := Nat.le_of_ble_eq_true hc0.1
        have hkn := Nat.le_of_ble_eq_true hc0.2
        injection hz with hz; subst hz
        obtain ⟨q1, q2, q3, q4, m', q5, q6, q7, q8⟩ := sliceBounds_ok (P := P) i h1 h2 h3 hb (Nat.le_refl len) false
        have hmm : m' = m := by
          by_cases hmx : mx' = none
          · have := q7 hmx; have := q4 hmx; omega
          · exact q8 hmx
        subst hmm
        refine OpOk.pure i (base b q l h m' v3 q5) ?_
        simp only [vrel]
        have hval : (if m' = l then (⟨b, q, none⟩ : Addr) else (⟨b, q, none⟩ : Addr).add (l * esz)) = ⟨b, (if m' = l then q else q + l * esz), none⟩ := by
          split <;> simp [add_eq]
        refine ⟨v1, v2, h0, b, (if m' = l then q else q + l * esz), m' - l, by rw [hval], by omega, (fun k hk => by injection hk with hk), fun hv => ?_⟩
        obtain ⟨u2, u3⟩ := v4 hv
        rw [← hl3] at hkn
        rw [cond_beq]
        have hm : m' * esz ≤ len * esz := Nat.mul_le_mul_right esz q3
        have hh : h * esz ≤ m' * esz := Nat.mul_le_mul_right esz q2
        have hl : l * esz ≤ h * esz := Nat.mul_le_mul_right esz q1
        have d1 : (h - l) * esz = h * esz - l * esz := Nat.sub_mul _ _ _
        have d2 : (m' - l) * esz = m' * esz - l * esz := Nat.sub_mul _ _ _
        by_cases hml : m' = l
        · rw [if_pos hml, if_pos hml]
          have : h = l := by omega
          subst this; subst hml
          simp only [Nat.sub_self, Nat.zero_mul]
          refine ⟨by omega, u2, u3, by omega⟩
        · rw [if_neg hml, if_neg hml]
          refine ⟨by omega, u2, by omega, by omega⟩
      · cases hz
    · cases hz
  · cases hz

theorem ok_sliceArr (i : Inv n nt C Lm s a w) {o : Oper} {t e : TypeId} {x : Operand} {lo hi mx : Option Operand} (ho : o.op = .slice t x lo hi mx) {len esz : Nat} (hu : P.underlying t = some (.array len e) ∨ ∃ r, P.underlying t = some (.pointer r) ∧ P.underlying r = some (.array len e)) (he : sizeP P e = some esz)
    {y : AOpd} (hx : trOpd x = some y) {lo' hi' mx' : Option AOpd} (h1 : trOO lo = some lo') (h2 : trOO hi = some hi') (h3 : trOO mx = some mx') {z : AVal} (hz : sliceArrA len esz (evalO s.t y) s.h s.t lo' hi' mx' = some z) : OpOk P n nt o C a w s z := by
  refine sliceArr_core i hx h1 h2 h3 hz fun b q l h m hv hb => ?_
  simp only [execOp, ho]
  refine run_v ?_
  rw [hv]
  rcases hu with hu | ⟨r, hu, hr⟩
  · simp [Instr.sliceAt, Instr.sureAddr, run_underlying hu, sizeP_run he, hb]
  · simp [Instr.sliceAt, Instr.slice, asAddr, run_underlying hu, run_underlying hr, sizeP_run he, hb]

theorem ok_sliceStr (i : Inv n nt C Lm s a w) {o : Oper} {t : TypeId} {x : Operand} {lo hi : Option Operand} (ho : o.op = .slice t x lo hi none) (hu : P.underlying t = some .string)
    {y : AOpd} (hx : trOpd x = some y) {lo' hi' : Option AOpd} (h1 : trOO lo = some lo') (h2 : trOO hi = some hi') {b : List Nat} (hy : evalO s.t y = .str b) {l h m : Nat} (hb : boundsA s.t b.length b.length lo' hi' none = some (l, h, m)) :
    OpOk P n nt o C a w s (.str ((b.take h).drop l)) := by
  have rv := eval_rel i hx hy (by intros; simp)
  simp only [vrel] at rv
  obtain ⟨st, v1, v2⟩ := rv
  have hs : b.length = st.size := by rw [← v2, List.length_map]; rfl
  rw [hs] at hb
  obtain ⟨q1, q2, q3, q4, m', q5, q6, q7, q8⟩ := sliceBounds_ok (P := P) i h1 h2 (mx := none) (mx' := none) rfl hb (Nat.le_refl st.size) false
  refine OpOk.pure i (v := .string (st.extract l h)) ?_ ?_
  · simp only [execOp, ho]
    refine run_v ?_
    rw [v1]
    simp only [Option.map_none] at q5
    simp [Instr.sliceAt, Instr.slice, run_underlying hu, q5]
  · simp only [vrel]
    refine ⟨_, rfl, ?_⟩
    rw [← v2]
    simp [List.take_drop]
    rw [show l + (h - l) = h from by omega]

/-- A built-in operation is run. -/
theorem builtin_run {o : Oper} {c : Call} (ho : o.op = .call c) {b : Builtin} (hb : c.callee = .builtin b) :
    ∃ cs, (execOp a.eval o).run P w = (builtin b c.argTypes o.type cs (c.args.map a.eval)).run P w :=
  ⟨_, by simp [execOp, ho, resolve, hb, invoke]; rfl⟩

theorem args_one {c : Call} {xs : List AOpd} {x' : AOpd} (h : trOpds c.args.toList = some xs) (e : xs = [x']) : ∃ x, c.args = #[x] ∧ trOpd x = some x' := by
  subst e
  cases hc : c.args.toList with
  | nil => rw [hc] at h; simp [trOpds] at h
  | cons x r =>
    rw [hc] at h
    unfold trOpds at h
    cases h1 : trOpd x with
    | none => simp [h1] at h
    | some z =>
      cases h2 : trOpds r with
      | none => simp [h1, h2] at h
      | some zs =>
        simp [h1, h2] at h
        obtain ⟨rfl, rfl⟩ := h
        cases r with
        | nil => exact ⟨x, by rw [← Array.toArray_toList (xs := c.args), hc], h1⟩
        | cons y ys =>
          unfold trOpds at h2
          cases h3 : trOpd y <;> cases h4 : trOpds ys <;> simp [h3, h4] at h2

theorem args_two {c : Call} {xs : List AOpd} {x' y' : AOpd} (h : trOpds c.args.toList = some xs) (e : xs = [x', y']) : ∃ x y, c.args = #[x, y] ∧ trOpd x = some x' ∧ trOpd y = some y' := by
  subst e
  cases hc : c.args.toList with
  | nil => rw [hc] at h; simp [trOpds] at h
  | cons x r =>
    rw [hc] at h
    unfold trOpds at h
    cases h1 : trOpd x with
    | none => simp [h1] at h
    | some z =>
      cases h2 : trOpds r with
      | none => simp [h1, h2] at h
      | some zs =>
        simp [h1, h2] at h
        obtain ⟨rfl, rfl⟩ := h
        obtain ⟨y, hy1, hy2⟩ := args_one (c := { c with args := r.toArray }) (xs := [y']) (x' := y') (by simpa using h2) rfl
        simp at hy1
        subst hy1
        exact ⟨x, y, by rw [← Array.toArray_toList (xs := c.args), hc], h1, hy2⟩

theorem ok_lenC (i : Inv n nt C Lm s a w) {o : Oper} {c : Call} (ho : o.op = .call c) (hb : c.callee = .builtin .len) {t : TypeId} {ts : List TypeId} (ht : c.argTypes.toList = t :: ts) {xs : List AOpd} {x' : AOpd} (hx : trOpds c.args.toList = some xs) (hxs : xs = [x'])
    {m : Nat} (hu : (∃ e, P.underlying t = some (.array m e)) ∨ ∃ r e, P.underlying t = some (.pointer r) ∧ P.underlying r = some (.array m e)) : OpOk P n nt o C a w s (.int .i64 (Int.ofNat m)) := by
  obtain ⟨x, hargs, _⟩ := args_one hx hxs
  have ht0 : c.argTypes[0]? = some t := by rw [← Array.getElem?_toList, ht]; rfl
  refine OpOk.pure i (v := .int .i64 m) ?_ (by simp [vrel])
  obtain ⟨cs, hcs⟩ := builtin_run (P := P) (a := a) (w := w) ho hb
  rw [hcs, hargs]
  rcases hu with ⟨e, hu⟩ | ⟨r, e, hu, hu2⟩
  · simp [builtin, Builtin.len_, ht0, run_underlying hu, goInt]
  · simp [builtin, Builtin.len_, ht0, run_underlying hu, run_underlying hu2, goInt]

theorem map_block (i : Inv n nt C Lm s a w) {id clock : Nat} {es : List (AVal × AVal × Nat)} (h : mapOf s.h id = some (es, clock)) : C.live id ∧ C.σ.m.get id = some (.amap es clock) ∧ ∃ ces, C.H[(C.mu id).blk]? = some (.map ces clock) ∧ entriesRel C es ces.toList := by
  unfold mapOf at h
  split at h
  · rename_i es' c' hg
    simp at h; obtain ⟨rfl, rfl⟩ := h
    rw [← i.σ] at hg
    have hl := live_of_get hg
    obtain ⟨b, h1, h2⟩ := i.hr.here id hl
    rw [hg] at h1; injection h1 with h1; subst h1
    simp only [blockRel] at h2
    exact ⟨hl, hg, h2⟩
  · cases h

theorem entries_len : ∀ {es : List (AVal × AVal × Nat)} {ces : List MapEntry}, entriesRel C es ces → es.length = ces.length
  | [], [], _ => rfl
  | [], _ :: _, h => by simp [entriesRel] at h
  | _ :: _, [], h => by simp [entriesRel] at h
  | _ :: _, _ :: _, h => by simp only [entriesRel] at h; simp [entries_len h.2]

theorem goInt_run {_P : Program} {_w : World} (k : Nat) : goInt k = .int .i64 (k : Int) := rfl

theorem ok_len (i : Inv n nt C Lm s a w) {o : Oper} {c : Call} (ho : o.op = .call c) (hb : c.callee = .builtin .len) {t : TypeId} {ts : List TypeId} (ht : c.argTypes.toList = t :: ts) {xs : List AOpd} {x' : AOpd} (hx : trOpds c.args.toList = some xs) (hxs : xs = [x'])
    {k : Nat} (hu : (k = 0 ∧ P.underlying t = some .string) ∨ (k = 1 ∧ ∃ e, P.underlying t = some (.slice e)) ∨ (k = 2 ∧ ∃ r e, P.underlying t = some (.map r e))) {z : AVal} (hz : lenA s.h k (evalO s.t x') = some z) : OpOk P n nt o C a w s z := by
  obtain ⟨x, hargs, hx'⟩ := args_one hx hxs
  have ht0 : c.argTypes[0]? = some t := by rw [← Array.getElem?_toList, ht]; rfl
  have run : ∀ (k : Nat), (Builtin.len_ c.argTypes o.type #[a.eval x]).run P w = .ok (.int .i64 (k : Int)) w → OpOk P n nt o C a w s (.int .i64 (Int.ofNat k)) := by
    intro k hr
    refine OpOk.pure i (v := .int .i64 (k : Int)) ?_ (by simp [vrel])
    obtain ⟨cs, hcs⟩ := builtin_run (P := P) (a := a) (w := w) ho hb
    rw [hcs, hargs]
    simp [builtin, hr]
  generalize hy : evalO s.t x' = u at hz
  rcases hu with ⟨rfl, hu⟩ | ⟨rfl, e, hu⟩ | ⟨rfl, r, e, hu⟩
  · cases u <;> simp only [lenA] at hz <;> try cases hz
    rename_i b
    have rv := eval_rel i hx' hy (by intros; simp)
    simp only [vrel] at rv
    obtain ⟨st, v1, v2⟩ := rv
    have hs : b.length = st.size := by rw [← v2, List.length_map]; rfl
    refine run _ ?_
    rw [v1, hs]
    simp [Builtin.len_, ht0, run_underlying hu, goInt]
  · cases u <;> simp only [lenA] at hz <;> try cases hz
    · have rv := eval_rel i hx' hy (by intros; simp)
      simp only [vrel] at rv
      refine run 0 ?_
      rw [rv]
      simp [Builtin.len_, ht0, run_underlying hu, goInt]
    · have rv := eval_rel i hx' hy (by intros; simp)
      simp only [vrel] at rv
      obtain ⟨b, q, c', sp, v1, _⟩ := rv
      refine run _ ?_
      rw [v1]
      simp [Builtin.len_, ht0, run_underlying hu, goInt]
    · have rv := eval_rel i hx' hy (by intros; simp)
      simp only [vrel] at rv
      obtain ⟨_, _, _, b, q, c', v1, _⟩ := rv
      refine run _ ?_
      rw [v1]
      simp [Builtin.len_, ht0, run_underlying hu, goInt]
  · cases u <;> simp only [lenA] at hz <;> try cases hz
    · have rv := eval_rel i hx' hy (by intros; simp)
      simp only [vrel] at rv
      refine run 0 ?_
      rw [rv]
      simp [Builtin.len_, ht0, run_underlying hu, goInt]
    · rename_i id
      split at hz
      · rename_i es cl hm
        injection hz with hz; subst hz
        have rv := eval_rel i hx' hy (by intros; simp)
        simp only [vrel] at rv
        obtain ⟨_, _, v1⟩ := rv
        obtain ⟨_, _, ces, hb1, hb2⟩ := map_block i hm
        refine run _ ?_
        rw [v1, entries_len hb2]
        have : w.heap[(C.mu id).blk]? = some (.map ces cl) := by rw [i.heap]; exact hb1
        simp [Builtin.len_, ht0, run_underlying hu, goInt, MapKept.run_getObj_map this, Result.andThen]
      · cases hz

/-- The capacity of a slice. -/
theorem ok_cap (i : Inv n nt C Lm s a w) {o : Oper} {c : Call} (ho : o.op = .call c) (hb : c.callee = .builtin .cap) {t : TypeId} {ts : List TypeId} (ht : c.argTypes.toList = t :: ts) {xs : List AOpd} {x' : AOpd} (hx : trOpds c.args.toList = some xs) (hxs : xs = [x'])
    {e : TypeId} (hu : P.underlying t = some (.slice e)) {k : Nat} (hz : evalO s.t x' = .nils ∧ k = 0 ∨ (∃ e xs, evalO s.t x' = .imm e xs true ∧ k = xs.length) ∨ ∃ id ver off len e, evalO s.t x' = .sl id ver off len (some k) e) : OpOk P n nt o C a w s (.int .i64 (Int.ofNat k)) := by
  obtain ⟨x, hargs, hx'⟩ := args_one hx hxs
  have ht0 : c.argTypes[0]? = some t := by rw [← Array.getElem?_toList, ht]; rfl
  have run : ∀ p len, a.eval x = .slice p len k → OpOk P n nt o C a w s (.int .i64 (Int.ofNat k)) := by
    intro p len hv
    refine OpOk.pure i (v := .int .i64 (k : Int)) ?_ (by simp [vrel])
    obtain ⟨cs, hcs⟩ := builtin_run (P := P) (a := a) (w := w) ho hb
    rw [hcs, hargs]
    simp [builtin, Builtin.cap_, ht0, run_underlying hu, hv, goInt]
  rcases hz with ⟨hy, rfl⟩ | ⟨e, xs, hy, rfl⟩ | ⟨id, ver, off, len, e, hy⟩
  · have rv := eval_rel i hx' hy (by intros; simp)
    simp only [vrel] at rv
    exact run _ _ rv
  · have rv := eval_rel i hx' hy (by intros; simp)
    simp only [vrel] at rv
    obtain ⟨b, q, c', sp, v1, v0, v2, v3, _⟩ := rv
    rw [v3 trivial] at v1
    exact run _ _ v1
  · have rv := eval_rel i hx' hy (by intros; simp)
    simp only [vrel] at rv
    obtain ⟨_, _, _, b, q, c', v1, _, v3, _⟩ := rv
    rw [v3 k rfl] at v1
    exact run _ _ v1

theorem max_fold : ∀ (vs : List AVal) (us : List Value) (v z : AVal) (u : Value), vrels C vs us → vrel C v u → foldO maxA v vs = some z → ∃ r, (us.foldlM Builtin.max2 u).run P w = .ok r w ∧ vrel C z r
  | [], [], v, z, u, _, r, h => by simp [foldO] at h; subst h; exact ⟨u, by simp, r⟩
  | [], _ :: _, _, _, _, r, _, _ => by simp [vrels] at r
  | _ :: _, [], _, _, _, r, _, _ => by simp [vrels] at r
  | x :: xs, y :: ys, v, z, u, rs, r, h => by
    simp only [vrels] at rs
    unfold foldO at h
    cases v <;> cases x <;> simp only [maxA] at h <;> try cases h
    rename_i k p j q
    have r1 := rs.1
    simp only [vrel] at r r1
    subst r; rw [r1]
    obtain ⟨t, ht, hr⟩ := max_fold xs ys _ z (.int k (if q > p then q else p)) rs.2 (by simp [vrel]) h
    exact ⟨t, by simp [Builtin.max2, ht], hr⟩

theorem min_fold : ∀ (vs : List AVal) (us : List Value) (v z : AVal) (u : Value), vrels C vs us → vrel C v u → foldO minA v vs = some z → ∃ r, (us.foldlM Builtin.min2 u).run P w = .ok r w ∧ vrel C z r
  | [], [], v, z, u, _, r, h => by simp [foldO] at h; subst h; exact ⟨u, by simp, r⟩
  | [], _ :: _, _, _, _, r, _, _ => by simp [vrels] at r
  | _ :: _, [], _, _, _, r, _, _ => by simp [vrels] at r
  | x :: xs, y :: ys, v, z, u, rs, r, h => by
    simp only [vrels] at rs
    unfold foldO at h
    cases v <;> cases x <;> simp only [minA] at h <;> try cases h
    rename_i k p j q
    have r1 := rs.1
    simp only [vrel] at r r1
    subst r; rw [r1]
    obtain ⟨t, ht, hr⟩ := min_fold xs ys _ z (.int k (if q < p then q else p)) rs.2 (by simp [vrel]) h
    exact ⟨t, by simp [Builtin.min2, ht], hr⟩

theorem ok_max (i : Inv n nt C Lm s a w) {o : Oper} {c : Call} (ho : o.op = .call c) (hb : c.callee = .builtin .max) {xs : List AOpd} (hx : trOpds c.args.toList = some xs) {v : AVal} {vs : List AVal} (hv : nlAll s.t xs = some (v :: vs)) {z : AVal} (hz : foldO maxA v vs = some z) : OpOk P n nt o C a w s z := by
  have rv := nlAll_rel i hx hv
  cases hc : c.args.toList.map a.eval with
  | nil => rw [hc] at rv; simp [vrels] at rv
  | cons u us =>
    rw [hc] at rv
    simp only [vrels] at rv
    obtain ⟨r, h1, h2⟩ := max_fold (P := P) (w := w) vs us v z u rv.2 rv.1 hz
    refine OpOk.pure i (v := r) ?_ h2
    obtain ⟨cs, hcs⟩ := builtin_run (P := P) (a := a) (w := w) ho hb
    rw [hcs]
    simp [builtin, Builtin.max_, hc, h1]

theorem ok_min (i : Inv n nt C Lm s a w) {o : Oper} {c : Call} (ho : o.op = .call c) (hb : c.callee = .builtin .min) {xs : List AOpd} (hx : trOpds c.args.toList = some xs) {v : AVal} {vs : List AVal} (hv : nlAll s.t xs = some (v :: vs)) {z : AVal} (hz : foldO minA v vs = some z) : OpOk P n nt o C a w s z := by
  have rv := nlAll_rel i hx hv
  cases hc : c.args.toList.map a.eval with
  | nil => rw [hc] at rv; simp [vrels] at rv
  | cons u us =>
    rw [hc] at rv
    simp only [vrels] at rv
    obtain ⟨r, h1, h2⟩ := min_fold (P := P) (w := w) vs us v z u rv.2 rv.1 hz
    refine OpOk.pure i (v := r) ?_ h2
    obtain ⟨cs, hcs⟩ := builtin_run (P := P) (a := a) (w := w) ho hb
    rw [hcs]
    simp [builtin, Builtin.min_, hc, h1]
end
end Wab
/- What is appended, copied, cleared. -/
namespace Wab
open Go

section
variable {P : Program} {n nt : Nat} {C : Ctx} {Lm : Nat → Option Nat} {s : St} {a : Act} {w : World}

theorem holds_list {b o : Nat} {xs : List AVal} (hw : w.heap = C.H) (h : ∀ (j : Nat) (x : AVal), xs[j]? = some x → holds C b (o + j) x) :
    xs.all one = true ∧ ∃ vs : List Value, vrels C xs vs ∧ vs.length = xs.length ∧ (∀ j u, vs[j]? = some u → w.cell? ((⟨b, o, none⟩ : Addr).add j) = some u) ∧ ∀ u ∈ vs, u.oneCell' = true := by
  obtain ⟨h1, vs, h2, h3, h4⟩ := list_of_holds xs o h
  refine ⟨h1, vs, h2, h3, fun j u hu => ?_, fun u hu => ?_⟩
  · rw [add_eq, cell_eq hw]; exact h4 j u hu
  · obtain ⟨j, hj⟩ := List.getElem?_of_mem hu
    have hlt : j < xs.length := by rw [← h3]; exact (List.getElem?_eq_some_iff.1 hj).1
    obtain ⟨u', hu', r⟩ := vrels_get h2 j xs[j] (by simp)
    rw [hj] at hu'; injection hu' with hu'; subst hu'
    exact one_cell (by rw [List.all_eq_true] at h1; exact h1 _ (List.getElem_mem hlt)) r

/-- What an operand yields to be appended or copied. -/
theorem src_ok (i : Inv n nt C Lm s a w) {x : Operand} {y : AOpd} (hx : trOpd x = some y) {esz k : Nat} {new : List AVal} (hs : srcCells s.h esz (evalO s.t y) = some (new, k)) {tx : TypeId} (kind : (∃ e, P.underlying tx = some (.slice e)) ∨ P.underlying tx = some .string) :
    new.all one = true ∧ ∃ news, Src P esz tx (a.eval x) k news w ∧ vrels C new news ∧ news.length = new.length ∧ ∀ m, m ≤ k → (Builtin.firstCells esz m (a.eval x)).run P w = .ok (news.take (m * esz)).toArray w := by
  generalize hy : evalO s.t y = u at hs
  have mk : ∀ (b q cp : Nat) (sp : Option Nat), (new ≠ [] → sp = none) → a.eval x = .slice (some ⟨b, q, sp⟩) k cp → new.length = k * esz → (∀ (j : Nat) (z : AVal), new[j]? = some z → holds C b (q + j) z) →
      new.all one = true ∧ ∃ news, Src P esz tx (a.eval x) k news w ∧ vrels C new news ∧ news.length = new.length ∧ ∀ m, m ≤ k → (Builtin.firstCells esz m (a.eval x)).run P w = .ok (news.take (m * esz)).toArray w := by
    intro b q cp sp hsp hv hl hh
    obtain ⟨h1, vs, h2, h3, h4, h5⟩ := holds_list i.heap hh
    have hs' : ∀ (j : Nat) (u : Value), vs[j]? = some u → sp = none := fun j u hu => hsp (fun e => by
      have := (List.getElem?_eq_some_iff.1 hu).1
      rw [h3, e] at this; simp at this)
    refine ⟨h1, vs, ?_, h2, h3, fun m hm => ?_⟩
    rotate_left
    · rw [hv]
      have := Nat.mul_le_mul_right esz hm
      exact run_firstCells_some w esz m ⟨b, q, sp⟩ k cp (vs.take (m * esz)) (by rw [List.length_take]; omega) (fun j u hu => by
        rw [List.getElem?_take] at hu
        split at hu
        · have := hs' j u hu; subst this; exact h4 j u hu
        · cases hu)
    rw [hv]
    exact ⟨kind, fun _ => rfl, run_firstCells_some w esz k ⟨b, q, sp⟩ k cp vs (by omega) (fun j u hu => by have := hs' j u hu; subst this; exact h4 j u hu), run_firstCells_some w.drew esz k ⟨b, q, sp⟩ k cp vs (by omega) (fun j u hu => by have := hs' j u hu; subst this; simpa using h4 j u hu), by omega, h5⟩
  cases u <;> simp only [srcCells] at hs <;> try cases hs
  · rename_i b
    have rv := eval_rel i hx hy (by intros; simp)
    simp only [vrel] at rv
    obtain ⟨st, v1, v2⟩ := rv
    rw [cond_beq] at hs
    split at hs
    · rename_i he
      subst he
      injection hs with hs; injection hs with e1 e2
      subst e1; subst e2
      have hlen : b.length = st.size := by rw [← v2, List.length_map]; rfl
      have hone : (b.map fun (c : Nat) => AVal.int .u8 (Int.ofNat c)).all one = true := by
        rw [List.all_eq_true]; intro z hz; obtain ⟨c, _, rfl⟩ := List.mem_map.1 hz; rfl
      refine ⟨hone, byteCells st, ?_, ?_, ?_, fun m hm => ?_⟩
      · rw [v1, hlen]
        exact ⟨kind, fun _ => rfl, firstCells_string st w, firstCells_string st w.drew, by rw [byteCells_length, Nat.mul_one], fun u hu => by obtain ⟨_, _, rfl⟩ := List.mem_map.1 hu; rfl⟩
      · rw [← v2]
        unfold byteCells
        rw [List.map_map]
        generalize st.data.toList = l
        induction l with
        | nil => simp [vrels]
        | cons c l ih => simp only [List.map_cons, vrels]; exact ⟨by simp [vrel], ih⟩
      · rw [byteCells_length, List.length_map, hlen]
      · rw [v1]
        simp [Builtin.firstCells, byteCells]
        apply Array.ext'
        simp
    · cases hs
  · have rv := eval_rel i hx hy (by intros; simp)
    simp only [vrel] at rv
    refine ⟨rfl, [], ?_, by simp [vrels], rfl, fun m hm => by rw [rv]; simpa using run_firstCells_none w esz m 0 0⟩
    rw [rv]
    exact ⟨kind, fun _ => rfl, run_firstCells_none w esz 0 0 0, run_firstCells_none w.drew esz 0 0 0, by simp, fun _ h => by cases h⟩
  · rename_i e xs ex
    rw [cond_beq] at hs
    split at hs
    · rename_i he
      subst he
      injection hs with hs; injection hs with e1 e2
      subst e1; subst e2
      have rv := eval_rel i hx hy (by intros; simp)
      simp only [vrel] at rv
      obtain ⟨b, q, cp, sp, v1, v0, v2, v3, v4⟩ := rv
      obtain ⟨h1, h2⟩ := elemsAt_flat v4
      exact mk b q cp sp (fun hne => v0 (fun e => by subst e; simp at hne)) v1 h1 fun j z hz => (h2 j z hz).2.2
    · cases hs
  · rename_i id ver off len cap e
    rw [cond_beq] at hs
    split at hs
    · rename_i he
      subst he
      split at hs
      · rename_i ty cs fz sx hcs
        obtain ⟨hl1, hl2, hl3, hl4, arr, fr, hl5, hl6, hl7, hl8⟩ := block_of i hcs
        simp only [Option.map_eq_some_iff] at hs
        obtain ⟨c, hc, e1⟩ := hs
        injection e1 with e1 e2
        subst e1; subst e2
        have rv := eval_rel i hx hy (by intros; simp)
        simp only [vrel] at rv
        obtain ⟨_, _, _, b, q, cp, v1, _, _, v4⟩ := rv
        obtain ⟨u1, u2, u3, _⟩ := v4 hl2.symm
        obtain ⟨g1, g2, g3, g4⟩ := getAt_some hc
        refine mk b q cp none (fun _ => rfl) v1 (by first | exact g2 | exact g3 | omega) fun j z hz => ?_
        obtain ⟨p1, p2⟩ := List.getElem?_eq_some_iff.1 (g4 j z hz)
        have := hl7 (off + j) p1
        rw [p2] at this
        rw [u2, u3, Nat.add_assoc]; exact this
      · cases hs
    · cases hs

/-- Cells of a block of the abstract heap's are written. -/
theorem write_block (i : Inv n nt C Lm s a w) {id ver ty fz : Nat} {cs : List AVal} {sx : Bool} (hcl : s.h.cells? id ver = some (ty, cs, fz, sx)) (hlk : s.h.lock ≤ id) {off : Nat} {new cs' : List AVal} (hfz : fz ≤ off)
    (hput : putAt cs off new = some cs') {news : List Value} (rn : vrels C new news) (on : new.all one = true) :
    (∀ j, j < news.length → (w.cell? ⟨(C.mu id).blk, (C.mu id).off + off + j, none⟩).isSome = true) ∧ (∀ j, j < news.length → w.frozen? ⟨(C.mu id).blk, (C.mu id).off + off + j, none⟩ = false) ∧
    ∃ C', Inv n nt C' Lm { s with h := s.h.put id (.cells ver ty cs' fz sx) } a (w.setCells (C.mu id).blk ((C.mu id).off + off) news) ∧ Stp n C w C' (w.setCells (C.mu id).blk ((C.mu id).off + off) news) ∧
      C'.live id ∧ C'.ver id = ver ∧ C'.mu id = C.mu id ∧ C'.known id = C.known id ∧ C'.asize id = C.asize id := by
  obtain ⟨b1, b2, b3, b4, arr, fr, b5, b6, b7, b8⟩ := block_of i hcl
  obtain ⟨q1, q2, q3⟩ := putAt_some hput
  have hnl := vrels_length rn
  refine ⟨fun j hj => ?_, fun j hj => ?_, ?_⟩
  · obtain ⟨_, u, hu, _⟩ := b7 (off + j) (by omega)
    rw [cell_eq i.heap, show (C.mu id).off + off + j = (C.mu id).off + (off + j) from by omega, hu]; rfl
  · rw [frozen_eq i.heap b5]
    rcases b8 with h | h | h
    · simp; omega
    · simp; omega
    · simp; omega
  · let w' := w.setCells (C.mu id).blk ((C.mu id).off + off) news
    have same : ∀ k, k ≠ (C.mu id).blk → w'.heap[k]? = C.H[k]? := fun k hk => by rw [setCells_other _ k hk, i.heap]
    have hsz : w'.heap.size = C.H.size := by rw [setCells_size, i.heap]
    obtain ⟨arr0, z1, z2, _⟩ := setCells_block (C.mu id).blk ty fr news ((C.mu id).off + off) w arr (by rw [i.heap]; exact b5)
    have po : PutOk C id (.cells ver ty cs' fz sx) (C.mu id) w'.heap := by
      refine ⟨b1, by rw [hsz]; exact Nat.le_refl _, fun k _ hk => same k hk, .inl rfl, ?_, by simp [bver, b2], fun _ => ⟨rfl, by simp [bknown, b3, q2], ?_⟩⟩
      · rintro ⟨es, c, hm⟩; rw [b4] at hm; cases hm
      · simp only [sizeH, Ctx.asize, w']; rw [z1, b5]; exact z2
    have hV := put_V i.hr po
    obtain ⟨g1, g2, g3⟩ := setCells_os (C.mu id).blk news ((C.mu id).off + off) w
    obtain ⟨arr', f1, f2, f3, f4⟩ := cells_after (C' := C.upd id (.cells ver ty cs' fz sx) (C.mu id) w'.heap) i.heap b5 b6 b7 rn on hput hV rfl
    have hH := put_H i.hr po (by
      simp only [blockRel]
      exact ⟨arr', fr, f1, f3, f4, by rw [f2]; exact b8⟩)
    refine ⟨C.upd id (.cells ver ty cs' fz sx) (C.mu id) w'.heap, ?_, put_S i.hr n i.base po (by rw [i.σ]; exact hlk) g1 g2 g3, upd_live.2 (.inl rfl), ?_, ?_, ?_, ?_⟩
    · refine i.step hV hH (by show C.H.size ≤ w'.heap.size; rw [hsz]; exact Nat.le_refl _) rfl (by simp [Ctx.upd, i.σ]) (fun d b hb => ⟨same b ?_, (i.lb d b hb).2.2⟩)
      intro e
      exact i.hr.free id b1 (e ▸ (i.lb d b hb).2.2)
    · simp [Ctx.ver, Ctx.upd, get_put]
    · simp [Ctx.upd]
    · rw [b3]; simp [Ctx.known, Ctx.upd, get_put, q2]
    · show sizeH w'.heap ((C.upd id (.cells ver ty cs' fz sx) (C.mu id) w'.heap).mu id).blk = _
      simp only [Ctx.upd, if_true, sizeH, Ctx.asize]
      rw [z1, b5]; exact z2

/-- A block goes on under a new version: what was at 'off' is now at its head. -/
theorem move_block (i : Inv n nt C Lm s a w) {id ver ty fz : Nat} {cs : List AVal} {sx : Bool} (hcl : s.h.cells? id ver = some (ty, cs, fz, sx)) (hlk : s.h.lock ≤ id) {l : Loc} {w' : World} {cs' : List AVal} {fz' : Nat} {sx' : Bool}
    (hsz : C.H.size ≤ w'.heap.size) (same : ∀ k, k < C.H.size → k ≠ (C.mu id).blk → w'.heap[k]? = C.H[k]?) (hl : l.blk = (C.mu id).blk ∨ C.H.size ≤ l.blk) (g1 : w'.os = w.os) (g2 : w'.tape = w.tape) (g3 : w'.output = w.output)
    {arr : Array Value} {fr : Nat × Nat} (ha : w'.heap[l.blk]? = some (.cells arr ty fr)) (hle : l.off + cs'.length ≤ arr.size) (hfr : frOk fr l.off fz' sx' arr.size)
    (hc : ∀ j (h : j < cs'.length), one cs'[j] = true ∧ ∃ v, arr[l.off + j]? = some v ∧ vrel C cs'[j] v) :
    ∃ C', Inv n nt C' Lm { s with h := s.h.put id (.cells (ver + 1) ty cs' fz' sx') } a w' ∧ Stp n C w C' w' ∧
      C'.live id ∧ C'.ver id = ver + 1 ∧ C'.mu id = l ∧ C'.known id = cs'.length ∧ C'.asize id = arr.size := by
  obtain ⟨b1, b2, b3, b4, _⟩ := block_of i hcl
  have po : PutOk C id (.cells (ver + 1) ty cs' fz' sx') l w'.heap := by
    refine ⟨b1, hsz, same, hl, ?_, by simp [bver, b2], fun e => ?_⟩
    · rintro ⟨es, c, hm⟩; rw [b4] at hm; cases hm
    · simp [bver, b2] at e
  have hV := put_V i.hr po
  have hH := put_H i.hr po (by
    simp only [blockRel]
    refine ⟨arr, fr, ha, hle, fun j hj => ?_, hfr⟩
    obtain ⟨h1, v, h2, h3⟩ := hc j hj
    refine ⟨h1, v, ?_, vrel_mono hV _ _ h3⟩
    show cellH w'.heap l.blk (l.off + j) = some v
    unfold cellH; rw [ha]; exact h2)
  refine ⟨C.upd id (.cells (ver + 1) ty cs' fz' sx') l w'.heap, ?_, put_S i.hr n i.base po (by rw [i.σ]; exact hlk) g1 g2 g3, upd_live.2 (.inl rfl), ?_, ?_, ?_, ?_⟩
  · refine i.step hV hH hsz rfl (by simp [Ctx.upd, i.σ]) (fun d b hb => ⟨same b (i.lb d b hb).2.1 ?_, (i.lb d b hb).2.2⟩)
    intro e
    exact i.hr.free id b1 (e ▸ (i.lb d b hb).2.2)
  · simp [Ctx.ver, Ctx.upd, get_put]
  · simp [Ctx.upd]
  · simp [Ctx.known, Ctx.upd, get_put]
  · show sizeH w'.heap ((C.upd id (.cells (ver + 1) ty cs' fz' sx') l w'.heap).mu id).blk = _
    simp only [Ctx.upd, if_true, sizeH]
    rw [ha]
end
end Wab
/- append. -/
namespace Wab
open Go

section
variable {P : Program} {n nt : Nat} {C : Ctx} {Lm : Nat → Option Nat} {s : St} {a : Act} {w : World}

/-- A new row, longer than is known. -/
theorem grow_push (i : Inv n nt C Lm s a w) {o : Oper} {e : TypeId} {esz need cap' : Nat} {cs : List AVal} {us : List Value} {rest : Array Value} (rv : vrels C cs us) (ov : cs.all one = true) (h0 : 0 < esz) (hlen : cs.length = need * esz) (hrest : need * esz + rest.size = cap' * esz)
    {w' : World} (hr : (execOp a.eval o).run P w = .ok (.value (.slice (some ⟨w.heap.size, 0, none⟩) need cap')) w') (hh : w'.heap = w.heap.push (.cells (us.toArray ++ rest) e (0, 0))) (h1 : w'.os = w.os) (h2 : w'.tape = w.tape) (h3 : w'.output = w.output) :
    OpOk P n nt o C a w { s with h := s.h.push (.cells 0 e cs 0 false) } (.sl s.h.next 0 0 need none esz) := by
  have hul := vrels_length rv
  have hcap : need ≤ cap' := Nat.le_of_mul_le_mul_right (by omega : need * esz ≤ cap' * esz) h0
  have hb := push_block (cs := cs) (ty := e) (fr := (0, 0)) (sx := false) (arr := us.toArray ++ rest) i.hr (by simp; omega) (fun j x hx => by
    obtain ⟨u, hu, ru⟩ := vrels_get rv j x hx
    refine ⟨by rw [List.all_eq_true] at ov; exact ov _ (List.mem_of_getElem? hx), u, ?_, ru⟩
    obtain ⟨p1, p2⟩ := List.getElem?_eq_some_iff.1 hu
    rw [Array.getElem?_append_left (by simpa using p1)]
    simpa using hu) (.inl rfl)
  refine OpOk.value hr (push_inv i hb hh) (fun d _ => trel_of_vrel ?_) (push_S i.hr n i.base _ _ h1 h2 h3)
  obtain ⟨f1, f2, f3⟩ := push_facts i.hr (.cells (us.toArray ++ rest) e (0, 0)) (.cells 0 e cs 0 false)
  simp only [vrel]
  rw [← i.σ]
  refine ⟨f1, Nat.zero_le _, h0, _, _, _, rfl, hcap, (fun k hk => by cases hk), fun _ => ?_⟩
  have hkn : (C.push (.cells (us.toArray ++ rest) e (0, 0)) (.cells 0 e cs 0 false)).known C.σ.next = cs.length := by simp [Ctx.known, f3]
  have has : (C.push (.cells (us.toArray ++ rest) e (0, 0)) (.cells 0 e cs 0 false)).asize C.σ.next = cap' * esz := by
    unfold Ctx.asize
    rw [f2]
    simp only [sizeH, Ctx.pushAt, Array.getElem?_push_size]
    simp; omega
  rw [f2, hkn, has]
  refine ⟨by omega, by rw [i.heap], rfl, by show 0 + 0 + cap' * esz = _; omega⟩

/-- What append must do, in the model. -/
structure AppRun (P : Program) (a : Act) (w : World) (o : Oper) (x0 : Operand) (e : TypeId) (esz bytes k : Nat) (news : List Value) : Prop where
  nothing : k = 0 → ∀ base sLen sCap, sLen ≤ sCap → a.eval x0 = .slice base sLen sCap → (execOp a.eval o).run P w = .ok (.value (.slice base sLen sCap)) w
  room : ∀ b off sLen sCap, a.eval x0 = .slice (some ⟨b, off, none⟩) sLen sCap → sLen + k ≤ sCap → (∀ j, j < news.length → (w.cell? ⟨b, off + sLen * esz + j, none⟩).isSome = true) → (∀ j, j < news.length → w.frozen? ⟨b, off + sLen * esz + j, none⟩ = false) →
    (execOp a.eval o).run P w = .ok (.value (.slice (some ⟨b, off, none⟩) (sLen + k) sCap)) (w.setCells b (off + sLen * esz) news)
  grow : ∀ base sLen sCap olds, a.eval x0 = .slice base sLen sCap → (Builtin.firstCells esz sLen (.slice base sLen sCap)).run P w.drew = .ok olds.toArray w.drew → sCap < sLen + k → sLen + k ≤ 140737488355328 → Builtin.nextslicecap (sLen + k) sCap * bytes ≤ 281474976710656 →
    ∃ cap' rest w', (execOp a.eval o).run P w = .ok (.value (.slice (some ⟨w.heap.size, 0, none⟩) (sLen + k) cap')) w' ∧ w'.heap = w.heap.push (.cells ((olds ++ news).toArray ++ rest) e (0, 0)) ∧ w'.os = w.os ∧ w'.tape = w.tape ∧ w'.output = w.output ∧ (sLen + k) * esz + rest.size = cap' * esz

theorem append_core (i : Inv n nt C Lm s a w) {o : Oper} {x0 : Operand} {y0 : AOpd} (hx0 : trOpd x0 = some y0) {e : TypeId} {esz bytes k : Nat} (h0 : 0 < esz) (hb0 : 0 < bytes) {new : List AVal} {news : List Value} (rn : vrels C new news) (on : new.all one = true) (hnl : new.length = k * esz)
    (R : AppRun P a w o x0 e esz bytes k news) {z : AVal} {h' : AHeap} (hz : appendC s.h e esz bytes (evalO s.t y0) (some (new, k)) = some (z, h')) : OpOk P n nt o C a w { s with h := h' } z := by
  generalize hy : evalO s.t y0 = u at hz
  have hnn := vrels_length rn
  unfold appendC at hz
  simp only [] at hz
  rw [cond_beq] at hz
  have fits : ∀ len cp, cp < len + k → (len + k) * bytes ≤ 140737488355328 → len + k ≤ 140737488355328 ∧ Builtin.nextslicecap (len + k) cp * bytes ≤ 281474976710656 := by
    intro len cp h1 h2
    refine ⟨Nat.le_trans (Nat.le_mul_of_pos_right _ hb0) h2, ?_⟩
    have := Nat.mul_le_mul_right bytes (Room.nextslicecap_le' h1)
    rw [Nat.mul_assoc] at this
    omega
  -- a new row
  have grow : ∀ (base : Option Addr) (len cp : Nat) (old : List AVal) (olds : List Value), a.eval x0 = .slice base len cp → vrels C old olds → old.all one = true → old.length = len * esz → (Builtin.firstCells esz len (.slice base len cp)).run P w.drew = .ok olds.toArray w.drew →
      cp < len + k → (len + k) * bytes ≤ 140737488355328 → OpOk P n nt o C a w { s with h := s.h.push (.cells 0 e (old ++ new) 0 false) } (.sl s.h.next 0 0 (len + k) none esz) := by
    intro base len cp old olds hv ro oo hol hfc hg hle
    obtain ⟨l1, l2⟩ := fits len cp hg hle
    obtain ⟨cap', rest, w', r1, r2, r3, r4, r5, r6⟩ := R.grow base len cp olds hv hfc hg l1 l2
    refine grow_push i (vrels_append ro rn) (by rw [List.all_append, oo, on]; rfl) h0 ?_ r6 r1 r2 r3 r4 r5
    rw [List.length_append, hol, hnl, ← Nat.add_mul]
  by_cases hk : k = 0
  · rw [if_pos hk] at hz
    cases u <;> simp only [] at hz <;> try cases hz
    · have rv := eval_rel i hx0 hy (by intros; simp)
      simp only [vrel] at rv
      have := OpOk.pure i (x := .nils) (R.nothing hk _ _ _ (Nat.le_refl _) rv) (by simp [vrel])
      exact this
    · rename_i e xs ex
      have rv := eval_rel i hx0 hy (by intros; simp)
      have rv' := rv
      simp only [vrel] at rv
      obtain ⟨b, q, cp, sp, v1, v0, v2, v3, v4⟩ := rv
      have := OpOk.pure i (x := .imm e xs ex) (R.nothing hk _ _ _ v2 v1) (by rw [← v1]; exact rv')
      exact this
    · rename_i id ver off len cap e
      have rv := eval_rel i hx0 hy (by intros; simp)
      have rv' := rv
      simp only [vrel] at rv
      obtain ⟨_, _, _, b, q, cp, v1, v2, _⟩ := rv
      have := OpOk.pure i (x := .sl id ver off len cap e) (R.nothing hk _ _ _ v2 v1) (by rw [← v1]; exact rv')
      exact this
  · rw [if_neg hk] at hz
    split at hz
    · -- nil
      have rv := eval_rel i hx0 hy (by intros; simp)
      simp only [vrel] at rv
      cases hc : Nat.ble (k * bytes) 140737488355328 with
      | false => rw [hc] at hz; cases hz
      | true =>
        rw [hc] at hz
        have hc := Nat.le_of_ble_eq_true hc
        simp only [cond_true, Option.some.injEq, Prod.mk.injEq] at hz
        obtain ⟨rfl, rfl⟩ := hz
        have := grow none 0 0 [] [] rv (by simp [vrels]) rfl (by simp) (run_firstCells_none w.drew esz 0 0 0) (by omega) (by simpa using hc)
        simpa using this
    · -- a list
      rename_i e' xs
      have rv := eval_rel i hx0 hy (by intros; simp)
      simp only [vrel] at rv
      obtain ⟨b, q, cp, sp, v1, v0, v2, v3, v4⟩ := rv
      have v3 := v3 trivial
      subst v3
      cases hc : (Nat.beq e' esz && Nat.ble ((xs.length + k) * bytes) 140737488355328) with
      | false => rw [hc] at hz; cases hz
      | true =>
        rw [hc] at hz
        rw [Bool.and_eq_true] at hc
        have he := Nat.eq_of_beq_eq_true hc.1
        have hc2 := Nat.le_of_ble_eq_true hc.2
        subst he
        simp only [cond_true, Option.some.injEq, Prod.mk.injEq] at hz
        obtain ⟨rfl, rfl⟩ := hz
        obtain ⟨f1, f2⟩ := elemsAt_flat v4
        obtain ⟨g1, vs, g2, g3, g4, g5⟩ := holds_list i.heap (fun j z hz => (f2 j z hz).2.2)
        exact grow _ _ _ _ vs v1 g2 g1 f1 (run_firstCells_some w.drew e' xs.length ⟨b, q, sp⟩ xs.length xs.length vs (by omega) (fun j u hu => by
          have hsp : sp = none := v0 (fun e => by
            have := (List.getElem?_eq_some_iff.1 hu).1
            rw [g3, e] at this; simp at this)
          subst hsp
          simpa using g4 j u hu)) (by omega) hc2
    · -- over a block
      rename_i id ver off len cap e'
      have rv := eval_rel i hx0 hy (by intros; simp)
      simp only [vrel] at rv
      obtain ⟨v1, v2, _, b, q, cp, v3, v4, v5, v6⟩ := rv
      cases hc : (Nat.beq e' esz && Nat.ble ((len + k) * bytes) 140737488355328) with
      | false => rw [hc] at hz; cases hz
      | true =>
      rw [hc] at hz
      rw [Bool.and_eq_true] at hc
      have he := Nat.eq_of_beq_eq_true hc.1
      have hc2 := Nat.le_of_ble_eq_true hc.2
      subst he
      simp only [cond_true] at hz
      split at hz
      · rename_i v ty' cs fz sx hgt
        rw [cond_beq] at hz
        split at hz
        · rename_i hver
          subst hver
          have hcl : s.h.cells? id v = some (ty', cs, fz, sx) := by unfold AHeap.cells?; rw [hgt]; simp
          obtain ⟨b1, b2, b3, b4, arr, fr, b5, b6, b7, b8⟩ := block_of i hcl
          obtain ⟨u1, u2, u3, u4⟩ := v6 b2.symm
          have hcp : cp * e' = cp * e' := rfl
          have hdm : (len + k) * e' = len * e' + k * e' := Nat.add_mul _ _ _
          -- in place
          have place : ∀ cap2 : Option Nat, cap2 = cap → s.h.lock ≤ id → fz ≤ off + len * e' → len + k ≤ cp → ∀ cs', putAt cs (off + len * e') new = some cs' →
              OpOk P n nt o C a w { s with h := s.h.put id (.cells v ty' cs' fz sx) } (.sl id v off (len + k) cap2 e') := by
            intro cap2 hcap2 hlk hfz hroom cs' hput
            subst hcap2
            obtain ⟨p1, p2, C', p3, p4, p5, p6, p7, p8, p9⟩ := write_block i hcl hlk hfz hput rn on
            obtain ⟨t1, t2, _⟩ := putAt_some hput
            have hq : q + len * e' = (C.mu id).off + (off + len * e') := by omega
            refine OpOk.value (R.room b q len cp v3 hroom (fun j hj => by rw [u2, hq]; exact p1 j hj) (fun j hj => by rw [u2, hq]; exact p2 j hj)) (C' := C') (Lm' := Lm) (by rw [u2, hq]; exact p3) (fun d _ => trel_of_vrel ?_) (by rw [u2, hq]; exact p4)
            simp only [vrel]
            refine ⟨p5, by omega, h0, b, q, cp, rfl, hroom, v5, fun _ => ?_⟩
            rw [p7, p8, p9]
            refine ⟨by omega, u2, u3, ?_⟩
            cases cap2 <;> exact u4
          have oldOf : ∀ old, getAt cs off (len * e') = some old → old.length = len * e' ∧ old.all one = true ∧ ∃ olds, vrels C old olds ∧ (Builtin.firstCells e' len (.slice (some ⟨b, q, none⟩) len cp)).run P w.drew = .ok olds.toArray w.drew ∧ olds.length = old.length ∧ (∀ (j : Nat) (z : AVal), old[j]? = some z → holds C b (q + j) z) := by
            intro old ho
            obtain ⟨g1, g2, g3, g4⟩ := getAt_some ho
            have hol : old.length = len * e' := by first | exact g2 | exact g3 | omega
            have hh : ∀ (j : Nat) (z : AVal), old[j]? = some z → holds C b (q + j) z := fun j z hz => by
              obtain ⟨p1, p2⟩ := List.getElem?_eq_some_iff.1 (g4 j z hz)
              have := b7 (off + j) p1
              rw [p2] at this
              rw [u2, u3, Nat.add_assoc]; exact this
            obtain ⟨k1, vs, k2, k3, k4, k5⟩ := holds_list (b := b) (o := q) (xs := old) i.heap hh
            exact ⟨hol, k1, vs, k2, run_firstCells_some w.drew e' len ⟨b, q, none⟩ len cp vs (by omega) (by simpa using k4), k3, hh⟩
          cases cap with
          | some c =>
            have hcc : cp = c := v5 c rfl
            subst hcc
            simp only at hz
            cases hroom : Nat.ble (len + k) cp with
            | true =>
              rw [hroom] at hz
              simp only [cond_true] at hz
              have hroom := Nat.le_of_ble_eq_true hroom
              cases hlf : (Nat.ble s.h.lock id && Nat.ble fz (off + len * e')) with
              | false => rw [hlf] at hz; cases hz
              | true =>
                rw [hlf] at hz
                rw [Bool.and_eq_true] at hlf
                simp only [cond_true, Option.map_eq_some_iff, Prod.mk.injEq] at hz
                obtain ⟨cs', hput, rfl, rfl⟩ := hz
                exact place (some cp) rfl (Nat.le_of_ble_eq_true hlf.1) (Nat.le_of_ble_eq_true hlf.2) hroom cs' hput
            | false =>
              rw [hroom] at hz
              have hroom : ¬ len + k ≤ cp := fun h => by rw [Nat.ble_eq_true_of_le h] at hroom; cases hroom
              simp only [cond_false, Option.map_eq_some_iff, Prod.mk.injEq] at hz
              obtain ⟨old, ho, rfl, rfl⟩ := hz
              obtain ⟨o1, o2, olds, o3, o4, o5, _⟩ := oldOf old ho
              exact grow _ _ _ _ olds v3 o3 o2 o1 o4 (by omega) hc2
          | none =>
            simp only at hz u4
            cases hlf : (Nat.ble s.h.lock id && Nat.ble fz (off + len * e')) with
            | false => rw [hlf] at hz; cases hz
            | true =>
              rw [hlf] at hz
              rw [Bool.and_eq_true] at hlf
              have hlk := Nat.le_of_ble_eq_true hlf.1
              have hfz := Nat.le_of_ble_eq_true hlf.2
              have has : C.asize id = arr.size := by simp only [Ctx.asize, sizeH]; rw [b5]
              simp only [cond_true] at hz
              cases hin : Nat.ble (off + (len + k) * e') cs.length with
              | true =>
                rw [hin] at hz
                have hin := Nat.le_of_ble_eq_true hin
                simp only [cond_true, Option.map_eq_some_iff, Prod.mk.injEq] at hz
                obtain ⟨cs', hput, rfl, rfl⟩ := hz
                refine place none rfl hlk hfz ?_ cs' hput
                exact Nat.le_of_mul_le_mul_right (by omega : (len + k) * e' ≤ cp * e') h0
              | false =>
                rw [hin] at hz
                simp only [cond_false] at hz
                rw [cond_beq] at hz
                split at hz
                · rename_i hty
                  subst hty
                  simp only [Option.map_eq_some_iff, Prod.mk.injEq] at hz
                  obtain ⟨old, ho, rfl, rfl⟩ := hz
                  obtain ⟨o1, o2, olds, o3, o4, o5, o6⟩ := oldOf old ho
                  have hcl' : (old ++ new).length = (len + k) * e' := by rw [List.length_append, o1, hnl, hdm]
                  by_cases hroom : len + k ≤ cp
                  · have hmul := Nat.mul_le_mul_right e' hroom
                    have hq : q + len * e' = q + len * e' := rfl
                    have hpos : ∀ j, j < news.length → q + len * e' + j < arr.size := fun j hj => by omega
                    have hfree : ∀ j, j < news.length → w.frozen? ⟨b, q + len * e' + j, none⟩ = false := fun j hj => by
                      have := hpos j hj
                      rw [u2, frozen_eq i.heap b5]
                      rcases b8 with h | h | h
                      · simp; omega
                      · simp; omega
                      · simp; omega
                    have hrun := R.room b q len cp v3 hroom (fun j hj => by
                      rw [u2, cell_eq i.heap]
                      simp only [cellH, b5]
                      rw [Array.getElem?_eq_getElem (hpos j hj)]; rfl) hfree
                    obtain ⟨arr', z1, z2, z3⟩ := setCells_block b e fr news (q + len * e') w arr (by rw [i.heap, u2]; exact b5)
                    obtain ⟨g1, g2, g3⟩ := setCells_os b news (q + len * e') w
                    obtain ⟨C', m1, m2, m3, m4, m5, m6, m7⟩ := move_block i hcl hlk (l := ⟨b, q⟩) (w' := w.setCells b (q + len * e') news) (cs' := old ++ new) (fz' := fz - off) (sx' := sx)
                      (by rw [setCells_size, i.heap]; exact Nat.le_refl _) (fun j _ hj => by rw [setCells_other b j (by rw [u2]; exact hj), i.heap]) (.inl u2) g1 g2 g3 z1 (by rw [hcl', z2]; show q + (len + k) * e' ≤ arr.size; omega)
                      (by
                        rw [z2]
                        rcases b8 with h | h | h
                        · exact .inl h
                        · refine .inr (.inl ?_); show fr.2 ≤ q + (fz - off); omega
                        · exact .inr (.inr h)) (fun j hj => by
                        have hj' := hj
                        rw [hcl'] at hj'
                        rw [z3 (q + j) (by omega)]
                        by_cases hjo : j < old.length
                        · rw [if_neg (by omega)]
                          obtain ⟨h1, u, h2, h3⟩ := o6 j old[j] (by simp)
                          rw [List.getElem_append_left hjo]
                          refine ⟨h1, u, ?_, h3⟩
                          rw [u2] at h2
                          simpa only [cellH, b5] using h2
                        · rw [if_pos (by omega)]
                          rw [List.getElem_append_right (by omega)]
                          obtain ⟨u, hu, ru⟩ := vrels_get rn (j - old.length) new[j - old.length] (by simp)
                          refine ⟨by rw [List.all_eq_true] at on; exact on _ (List.getElem_mem _), u, ?_, ru⟩
                          rw [show q + j - (q + len * e') = j - old.length from by omega]; exact hu)
                    refine OpOk.value hrun (C' := C') (Lm' := Lm) m1 (fun d _ => trel_of_vrel ?_) m2
                    simp only [vrel]
                    refine ⟨m3, by omega, h0, b, q, cp, rfl, hroom, (fun k hk => by cases hk), fun _ => ?_⟩
                    rw [m5, m6, m7, z2]
                    refine ⟨by omega, rfl, rfl, by show q + 0 + cp * e' = _; omega⟩
                  · obtain ⟨l1, l2⟩ := fits len cp (by omega) hc2
                    obtain ⟨cap', rest, w', r1, r2, r3, r4, r5, r6⟩ := R.grow _ len cp olds v3 o4 (by omega) l1 l2
                    have hcap : len + k ≤ cap' := Nat.le_of_mul_le_mul_right (by omega : (len + k) * e' ≤ cap' * e') h0
                    have hul := vrels_length (vrels_append o3 rn)
                    obtain ⟨C', m1, m2, m3, m4, m5, m6, m7⟩ := move_block i hcl hlk (l := ⟨C.H.size, 0⟩) (w' := w') (cs' := old ++ new) (fz' := fz - off) (sx' := sx) (arr := (olds ++ news).toArray ++ rest) (fr := (0, 0))
                      (by rw [r2, i.heap]; simp) (fun j hj _ => by rw [r2, i.heap, Array.getElem?_push, if_neg (by omega)]) (.inr (Nat.le_refl _)) r3 r4 r5 (by rw [r2, i.heap]; simp) (by
                        have : ((olds ++ news).toArray ++ rest).size = (olds ++ news).length + rest.size := by simp
                        rw [this, ← hul]; show 0 + (old ++ new).length ≤ _; omega) (.inl rfl) (fun j hj => by
                        obtain ⟨u, hu, ru⟩ := vrels_get (vrels_append o3 rn) j (old ++ new)[j] (by simp)
                        refine ⟨?_, u, ?_, ru⟩
                        · have : (old ++ new).all one = true := by rw [List.all_append, o2, on]; rfl
                          rw [List.all_eq_true] at this; exact this _ (List.getElem_mem _)
                        · obtain ⟨p1, p2⟩ := List.getElem?_eq_some_iff.1 hu
                          show ((olds ++ news).toArray ++ rest)[0 + j]? = some u
                          rw [Nat.zero_add, Array.getElem?_append_left (by simpa using p1)]
                          simpa using hu)
                    refine OpOk.value r1 (C' := C') (Lm' := Lm) m1 (fun d _ => trel_of_vrel ?_) m2
                    simp only [vrel]
                    refine ⟨m3, by omega, h0, w.heap.size, 0, cap', rfl, hcap, (fun k hk => by cases hk), fun _ => ?_⟩
                    rw [m5, m6, m7]
                    have hsz : ((olds ++ news).toArray ++ rest).size = (olds ++ news).length + rest.size := by simp
                    refine ⟨by omega, by rw [i.heap], rfl, ?_⟩
                    show 0 + 0 + cap' * e' = _
                    rw [hsz]; omega
                · cases hz
        · cases hz
      · cases hz
    · cases hz
end
end Wab
/- append of slices, strings, zeros; copy; clear; new slices; conversions. -/
namespace Wab
open Go

section
variable {P : Program} {n nt : Nat} {C : Ctx} {Lm : Nat → Option Nat} {s : St} {a : Act} {w : World}

theorem zeroCells_size (z : Array Value) (k : Nat) : (Builtin.zeroCells z k).size = k * z.size := by simp [Builtin.zeroCells]

theorem bytesP_some {e : TypeId} {k : Nat} (h : bytesP P e = some k) {ti : TypeInfo} (hi : P.info? e = some ti) : ti.bytes = k := by
  simp [bytesP, hi] at h; exact h

theorem args_arr {c : Call} {x y : Operand} (h : c.args = #[x, y]) (f : Operand → Value) : c.args.map f = #[f x, f y] := by rw [h]; simp

theorem types_arr {c : Call} {x y : TypeId} (h : c.argTypes.toList = [x, y]) : c.argTypes = #[x, y] := by
  rw [← Array.toArray_toList (xs := c.argTypes), h]

theorem ok_append (i : Inv n nt C Lm s a w) {o : Oper} {c : Call} (ho : o.op = .call c) (hb : c.callee = .builtin .append) {ts tx : TypeId} (ht : c.argTypes.toList = [ts, tx]) {xs : List AOpd} {y0 y1 : AOpd} (hx : trOpds c.args.toList = some xs) (hxs : xs = [y0, y1])
    {e : TypeId} (hu : P.underlying ts = some (.slice e)) (kind : (∃ e, P.underlying tx = some (.slice e)) ∨ P.underlying tx = some .string) {esz bytes : Nat} (he : sizeP P e = some esz) (hby : bytesP P e = some bytes) {zs : List AVal} (hzz : zeroC P e = some zs) (h0 : 0 < esz) (hb0 : 0 < bytes)
    {z : AVal} {h' : AHeap} (hz : appendC s.h e esz bytes (evalO s.t y0) (srcCells s.h esz (evalO s.t y1)) = some (z, h')) : OpOk P n nt o C a w { s with h := h' } z := by
  obtain ⟨x0, x1, hargs, hx0, hx1⟩ := args_two hx hxs
  obtain ⟨ti, zv, m, hi, hzv, hm, him, hzl, _, hzr, _⟩ := zeroC_ok' hzz
  rw [hm] at he; injection he with he; subst he
  have hbytes := bytesP_some hby hi
  subst hbytes
  cases hs : srcCells s.h m (evalO s.t y1) with
  | none => rw [hs] at hz; unfold appendC at hz; cases hz
  | some r =>
    obtain ⟨new, k⟩ := r
    rw [hs] at hz
    obtain ⟨on, news, hsrc, rn, hnl, _⟩ := src_ok (P := P) i hx1 hs kind
    obtain ⟨cs, hcs⟩ := builtin_run (P := P) (a := a) (w := w) ho hb
    rw [types_arr ht, args_arr hargs] at hcs
    have hrun : ∀ r w', (Builtin.append_ #[ts, tx] o.type #[a.eval x0, a.eval x1]).run P w = .ok r w' → (execOp a.eval o).run P w = .ok (.value r) w' := fun r w' h => by
      rw [hcs]; exact run_v h
    subst him
    have hzsz : zv.cells.size = ti.size := by have := vrels_length (hzr C); simp at this; omega
    have hnl2 := hsrc.newsLen
    refine append_core i hx0 h0 hb0 rn on (by omega) ⟨fun hk base sLen sCap hle hv => ?_, fun b off sLen sCap hv hroom hc hf => ?_, fun base sLen sCap olds hv hold hg hle hfit => ?_⟩ hz
    · subst hk
      have : news = [] := List.eq_nil_of_length_eq_zero (by omega)
      subst this
      refine hrun _ _ ?_
      rw [hv]
      exact run_append_nothing w ts tx o.type e ti hu hi base sLen sCap hle _ hsrc
    · refine hrun _ _ ?_
      rw [hv]
      exact run_append_room_src w ts tx o.type e ti hu hi b off sLen sCap _ k news hsrc hroom hc hf
    · refine ⟨grownCap w (sLen + k) sCap e, Builtin.zeroCells zv.cells (grownCap w (sLen + k) sCap e - (sLen + k)), w.drew.alloc (.cells ((olds ++ news).toArray ++ Builtin.zeroCells zv.cells (grownCap w (sLen + k) sCap e - (sLen + k))) e), hrun _ _ (by
        rw [hv]
        exact run_append_grow_src w ts tx o.type e ti zv hu hi hzv base sLen sCap olds hold _ k news hsrc hg (by omega) hfit), rfl, rfl, rfl, rfl, ?_⟩
      rw [zeroCells_size, hzsz, ← Nat.add_mul]
      have := grownCap_ge w (sLen + k) sCap e
      congr 1; omega

theorem zeroCells_rel {zv : Value} {zs : List AVal} (h : ∀ C : Ctx, vrels C zs zv.cells.toList) {m : Nat} (hl : zs.length = m) (h0 : 0 < m) (C : Ctx) (k : Nat) : vrels C (List.replicate k zs).flatten (Builtin.zeroCells zv.cells k).toList := by
  have := rep_cells (h C) hl h0 k
  have hsz : zv.cells.size = m := by have := vrels_length (h C); simp at this; omega
  have he : Builtin.zeroCells zv.cells k = (Array.range (k * m)).map fun i => zv.cells[i % zv.cells.size]! := by
    subst hsz; rfl
  rw [he]
  exact this

theorem ok_appendZ (i : Inv n nt C Lm s a w) {o : Oper} {c : Call} (ho : o.op = .call c) (hb : c.callee = .builtin .append) {ts tx : TypeId} (ht : c.argTypes.toList = [ts, tx]) {xs : List AOpd} {y0 y1 : AOpd} (hx : trOpds c.args.toList = some xs) (hxs : xs = [y0, y1])
    {e : TypeId} (hu : P.underlying ts = some (.slice e)) {kk : IntKind} (kind : P.underlying tx = some (.int kk)) {esz bytes : Nat} (he : sizeP P e = some esz) (hby : bytesP P e = some bytes) {zs : List AVal} (hzz : zeroC P e = some zs) (h0 : 0 < esz) (hb0 : 0 < bytes)
    {k : Nat} (hk : natOf (evalO s.t y1) = some k) (hkb : k * bytes ≤ 140737488355328)
    {z : AVal} {h' : AHeap} (hz : appendC s.h e esz bytes (evalO s.t y0) (some ((List.replicate k zs).flatten, k)) = some (z, h')) : OpOk P n nt o C a w { s with h := h' } z := by
  obtain ⟨x0, x1, hargs, hx0, hx1⟩ := args_two hx hxs
  obtain ⟨ti, zv, m, hi, hzv, hm, him, hzl, hzrun, hzr, hzo⟩ := zeroC_ok' hzz
  rw [hm] at he; injection he with he; subst he
  have hbytes := bytesP_some hby hi
  subst hbytes
  obtain ⟨j, hjv⟩ := nat_rel i hx1 hk
  obtain ⟨cs, hcs⟩ := builtin_run (P := P) (a := a) (w := w) ho hb
  rw [types_arr ht, args_arr hargs] at hcs
  have hrun : ∀ r w', (Builtin.append_ #[ts, tx] o.type #[a.eval x0, a.eval x1]).run P w = .ok r w' → (execOp a.eval o).run P w = .ok (.value r) w' := fun r w' h => by
    rw [hcs]; exact run_v h
  subst him
  have hzsz : zv.cells.size = ti.size := by have := vrels_length (hzr C); simp at this; omega
  have rn := zeroCells_rel hzr hzl h0 C k
  have on := rep_one hzo k
  have hkle : k ≤ 140737488355328 := Nat.le_trans (Nat.le_mul_of_pos_right _ hb0) hkb
  have hwrap : IntKind.i64.wrap (k : Int) = (k : Int) := by rw [IntKind.wrap_i64]; omega
  have hnl : (List.replicate k zs).flatten.length = k * ti.size := by simp [hzl]
  have hnews : (Builtin.zeroCells zv.cells k).toList.length = k * ti.size := by rw [Array.length_toList, zeroCells_size, hzsz]
  have hneg : ¬ ((k : Int) < 0) := by omega
  have hbig : ¬ (281474976710656 < (k : Int) * (ti.bytes : Int)) := by
    rw [← Int.natCast_mul]; omega
  have hempty : k * ti.size = 0 → Builtin.zeroCells zv.cells k = #[] := fun h => Array.eq_empty_of_size_eq_zero (by rw [zeroCells_size, hzsz, h])
  refine append_core i hx0 h0 hb0 rn on hnl ⟨fun hk base sLen sCap hle hv => ?_, fun b off sLen sCap hv hroom hc hf => ?_, fun base sLen sCap olds hv hold hg hle hfit => ?_⟩ hz
  · refine hrun _ _ ?_
    rw [hv, hjv]
    have hroom : sLen + k ≤ sCap := by omega
    have hz0 : k * ti.size = 0 := by rw [hk]; simp
    cases base <;> simp [Builtin.append_, run_underlying hu, run_underlying kind, asInt, asIntOf, hwrap, hneg, hbig, typeInfo, Go.sizeOf, hi, hroom, hz0, storeCells] <;> simp [hk]
  · refine hrun _ _ ?_
    rw [hv, hjv]
    have hst := run_storeCells_cells (P := P) b (off + sLen * ti.size) (Builtin.zeroCells zv.cells k).toList 0 w (by simpa using hc) (by simpa using hf) (vrels_one rn on)
    simp only [Nat.add_zero] at hst
    by_cases hz0 : k * ti.size = 0
    · have hk0 : k = 0 := by
        rcases Nat.mul_eq_zero.1 hz0 with h | h
        · exact h
        · omega
      have he := hempty (by omega)
      rw [he]
      simp [Builtin.append_, run_underlying hu, run_underlying kind, asInt, asIntOf, hwrap, hneg, hbig, typeInfo, Go.sizeOf, hi, hroom, hz0, storeCells, World.setCells]
    · have hkn : ¬ k = 0 := fun h => hz0 (by rw [h]; simp)
      have hsn : ¬ ti.size = 0 := by omega
      simp [Builtin.append_, run_underlying hu, run_underlying kind, asInt, asIntOf, hwrap, hneg, hbig, typeInfo, Go.sizeOf, hi, hroom, hzrun, hz0, Addr.add_lit, hst]
  · refine ⟨grownCap w (sLen + k) sCap e, Builtin.zeroCells zv.cells (grownCap w (sLen + k) sCap e - (sLen + k)), w.drew.alloc (.cells ((olds ++ (Builtin.zeroCells zv.cells k).toList).toArray ++ Builtin.zeroCells zv.cells (grownCap w (sLen + k) sCap e - (sLen + k))) e), hrun _ _ ?_, rfl, rfl, rfl, rfl, ?_⟩
    · rw [hv, hjv]
      have hn : ¬ (sLen + k ≤ sCap) := by omega
      have h63' : ¬ (9223372036854775807 < ((sLen : Int) + (k : Int))) := by omega
      have h48' : ¬ (281474976710656 < Builtin.nextslicecap (sLen + k) sCap * ti.bytes) := by omega
      by_cases hz0 : k * ti.size = 0
      · have hk0 : k = 0 := by
          rcases Nat.mul_eq_zero.1 hz0 with h | h
          · exact h
          · omega
        have he := hempty (by omega)
        rw [he]
        simp [Builtin.append_, run_underlying hu, run_underlying kind, asInt, asIntOf, hwrap, hneg, hbig, typeInfo, Go.sizeOf, hi, hn, h63', h48', Question.forced, hold, newRow, grownCap, hz0, hzrun]
      · have hkn : ¬ k = 0 := fun h => hz0 (by rw [h]; simp)
        have hsn : ¬ ti.size = 0 := by omega
        simp [Builtin.append_, run_underlying hu, run_underlying kind, asInt, asIntOf, hwrap, hneg, hbig, typeInfo, Go.sizeOf, hi, hn, h63', h48', Question.forced, hold, newRow, grownCap, hz0, hzrun]
        congr 2
        apply Array.ext'
        simp [List.append_assoc]
    · rw [zeroCells_size, hzsz, ← Nat.add_mul]
      have := grownCap_ge w (sLen + k) sCap e
      congr 1; omega
end
end Wab
/- copy, clear, new slices, strings and bytes. -/
namespace Wab
open Go

section
variable {P : Program} {n nt : Nat} {C : Ctx} {Lm : Nat → Option Nat} {s : St} {a : Act} {w : World}

theorem ok_copy (i : Inv n nt C Lm s a w) {o : Oper} {c : Call} (ho : o.op = .call c) (hb : c.callee = .builtin .copy) {ts : TypeId} {r : List TypeId} (ht : c.argTypes.toList = ts :: r) {xs : List AOpd} {y0 y1 : AOpd} (hx : trOpds c.args.toList = some xs) (hxs : xs = [y0, y1])
    {e : TypeId} (hu : P.underlying ts = some (.slice e)) {esz : Nat} (he : sizeP P e = some esz) {z : AVal} {h' : AHeap} (hz : copyA s.h esz (evalO s.t y0) (evalO s.t y1) = some (z, h')) : OpOk P n nt o C a w { s with h := h' } z := by
  obtain ⟨x0, x1, hargs, hx0, hx1⟩ := args_two hx hxs
  have ht0 : c.argTypes[0]? = some ts := by rw [← Array.getElem?_toList, ht]; rfl
  obtain ⟨cs, hcs⟩ := builtin_run (P := P) (a := a) (w := w) ho hb
  rw [args_arr hargs] at hcs
  have hrun : ∀ r w', (Builtin.copy_ c.argTypes o.type #[a.eval x0, a.eval x1]).run P w = .ok r w' → (execOp a.eval o).run P w = .ok (.value r) w' := fun r w' h => by
    rw [hcs]; exact run_v h
  unfold copyA at hz
  cases hs : srcCells s.h esz (evalO s.t y1) with
  | none => rw [hs] at hz; cases hz
  | some q =>
    obtain ⟨new, k⟩ := q
    rw [hs] at hz
    simp only at hz
    obtain ⟨on, news, hsrc, rn, hnl, htake⟩ := src_ok (P := P) i hx1 hs (.inl ⟨e, hu⟩)
    have hlen := hsrc.len
    generalize hy : evalO s.t y0 = u at hz
    split at hz
    · injection hz with hz; injection hz with e1 e2
      subst e1; subst e2
      have rv := eval_rel i hx0 hy (by intros; simp)
      simp only [vrel] at rv
      refine OpOk.pure i (v := .int .i64 (0 : Int)) (hrun _ _ ?_) (by simp [vrel])
      have h0 := htake 0 (Nat.zero_le _)
      simp only [Nat.zero_mul, List.take_zero] at h0
      rw [rv]
      simp [Builtin.copy_, ht0, run_underlying hu, sizeP_run he, hlen, h0, goInt]
    · rename_i id ver off len cap e'
      have rv := eval_rel i hx0 hy (by intros; simp)
      simp only [vrel] at rv
      obtain ⟨v1, v2, v0, b, q, cp, v3, v4, v5, v6⟩ := rv
      cases hc : (Nat.beq e' esz && Nat.ble s.h.lock id) with
      | false => rw [hc] at hz; cases hz
      | true =>
      rw [hc] at hz
      rw [Bool.and_eq_true] at hc
      have hee := Nat.eq_of_beq_eq_true hc.1
      have hlk := Nat.le_of_ble_eq_true hc.2
      subst hee
      simp only [cond_true] at hz
      split at hz
      · rename_i v ty cs' fz sx hgt
        cases hc2 : (Nat.beq v ver && Nat.ble fz off) with
        | false => rw [hc2] at hz; cases hz
        | true =>
        rw [hc2] at hz
        rw [Bool.and_eq_true] at hc2
        have hve := Nat.eq_of_beq_eq_true hc2.1
        have hfz := Nat.le_of_ble_eq_true hc2.2
        subst hve
        simp only [cond_true, Option.map_eq_some_iff, Prod.mk.injEq] at hz
        obtain ⟨cs2, hput, rfl, rfl⟩ := hz
        have hcl : s.h.cells? id v = some (ty, cs', fz, sx) := by unfold AHeap.cells?; rw [hgt]; simp
        obtain ⟨b1, b2, b3, b4, _⟩ := block_of i hcl
        obtain ⟨u1, u2, u3, u4⟩ := v6 b2.symm
        have rn' := vrels_take (min k len * e') rn
        obtain ⟨p1, p2, C', p3, p4, _⟩ := write_block i hcl hlk hfz hput rn' (all_take on (min k len * e'))
        have hst := run_storeCells_cells (P := P) (C.mu id).blk ((C.mu id).off + off) (news.take (min k len * e')) 0 w (by simpa using p1) (by simpa using p2) (vrels_one rn' (all_take on (min k len * e')))
        simp only [Nat.add_zero] at hst
        refine OpOk.value (v := .int .i64 ((min k len : Nat) : Int)) (hrun _ _ ?_) (C' := C') (Lm' := Lm) p3 (fun d _ => trel_of_vrel (by simp [vrel])) p4
        have hm := htake (min k len) (Nat.min_le_left _ _)
        rw [v3, u2, u3]
        simp [Builtin.copy_, ht0, run_underlying hu, sizeP_run he, hlen, hm, goInt, hst]
      · cases hz
    · cases hz

theorem ok_mkSlice (i : Inv n nt C Lm s a w) {o : Oper} {t e : TypeId} {l c : Operand} (ho : o.op = .makeSlice t l c) (hu : P.underlying t = some (.slice e)) {yl yc : AOpd} (hl : trOpd l = some yl) (hc : trOpd c = some yc) {esz bytes : Nat} (he : sizeP P e = some esz) (hby : bytesP P e = some bytes) {zs : List AVal} (hzz : zeroC P e = some zs) (h0 : 0 < esz)
    {kl kc : Nat} (h1 : natOf (evalO s.t yl) = some kl) (h2 : natOf (evalO s.t yc) = some kc) (hle : kl ≤ kc) (hb : kc * bytes ≤ 140737488355328) (hm : kc ≤ 9223372036854775807) :
    OpOk P n nt o C a w { s with h := s.h.push (.cells 0 e (List.replicate kc zs).flatten 0 false) } (.sl s.h.next 0 0 kl (some kc) esz) := by
  obtain ⟨ti, zv, m, hi, hzv, hm', him, hzl, hzrun, hzr, hzo⟩ := zeroC_ok' hzz
  rw [hm'] at he; injection he with he; subst he
  have hbytes := bytesP_some hby hi
  subst hbytes
  obtain ⟨jl, vl⟩ := nat_rel i hl h1
  obtain ⟨jc, vc⟩ := nat_rel i hc h2
  subst him
  have rv := rep_cells (hzr C) hzl h0 kc
  have hsz : zv.cells.size = ti.size := by have := vrels_length (hzr C); simp at this; omega
  have hr : (execOp a.eval o).run P w = .ok (.value (.slice (some ⟨w.heap.size, 0, none⟩) kl kc)) { w with heap := w.heap.push (.cells (madeCells zv.cells (kc * ti.size)) e (0, 0)) } := by
    simp only [execOp, ho]
    refine run_v ?_
    rw [vl, vc]
    have := run_make w t e ti zv hu hi hzv jl jc kl kc (by omega) (by omega) (by rw [← Int.natCast_mul, Nat.mul_comm]; omega) (by omega)
    simpa using this
  have hb := push_block (cs := (List.replicate kc zs).flatten) (ty := e) (fr := (0, 0)) (sx := false) (arr := madeCells zv.cells (kc * ti.size)) i.hr (by have := vrels_length rv; simp [madeCells, hzl] at this ⊢) (cells_hyp (by exact rv) (rep_one hzo kc)) (.inl rfl)
  refine OpOk.value hr (push_inv i hb rfl) (fun d _ => trel_of_vrel ?_) (push_S i.hr n i.base _ _ rfl rfl rfl)
  obtain ⟨f1, f2, f3⟩ := push_facts i.hr (.cells (madeCells zv.cells (kc * ti.size)) e (0, 0)) (.cells 0 e (List.replicate kc zs).flatten 0 false)
  simp only [vrel]
  rw [← i.σ]
  refine ⟨f1, Nat.zero_le _, h0, _, _, _, rfl, hle, (fun k hk => by injection hk), fun _ => ?_⟩
  have hkn : (C.push (.cells (madeCells zv.cells (kc * ti.size)) e (0, 0)) (.cells 0 e (List.replicate kc zs).flatten 0 false)).known C.σ.next = kc * ti.size := by simp [Ctx.known, f3, hzl]
  rw [f2, hkn]
  have := Nat.mul_le_mul_right ti.size hle
  refine ⟨by omega, by rw [i.heap], rfl, by omega⟩

theorem ok_clear (i : Inv n nt C Lm s a w) {o : Oper} {c : Call} (ho : o.op = .call c) (hb : c.callee = .builtin .clear) {t : TypeId} {r : List TypeId} (ht : c.argTypes.toList = t :: r) {xs : List AOpd} {y0 : AOpd} (hx : trOpds c.args.toList = some xs) (hxs : xs = [y0])
    {e : TypeId} (hu : P.underlying t = some (.slice e)) {zs : List AVal} (hzz : zeroC P e = some zs) {esz : Nat} (he : sizeP P e = some esz) (h0 : 0 < esz) {C0 : Oracle} {z : AVal} {s' : St} (hz : aop C0 s (.clear zs esz y0) = some (z, s')) : OpOk P n nt o C a w s' z := by
  obtain ⟨x0, hargs, hx0⟩ := args_one hx hxs
  have ht0 : c.argTypes[0]? = some t := by rw [← Array.getElem?_toList, ht]; rfl
  obtain ⟨cs, hcs⟩ := builtin_run (P := P) (a := a) (w := w) ho hb
  rw [hargs] at hcs
  have hrun : ∀ r w', (Builtin.clear_ c.argTypes o.type #[a.eval x0]).run P w = .ok r w' → (execOp a.eval o).run P w = .ok (.value r) w' := fun r w' h => by
    rw [hcs]; simp only [List.map_toArray, List.map_cons, List.map_nil]; exact run_v h
  simp only [aop] at hz
  generalize hy : evalO s.t y0 = u at hz
  have nothing : ∀ p cp, a.eval x0 = .slice p 0 cp → OpOk P n nt o C a w s noRes := by
    intro p cp hv
    refine OpOk.pure i (v := .tuple #[]) (hrun _ _ ?_) (vrel_noRes C)
    rw [hv]
    cases p <;> simp [Builtin.clear_, ht0, run_underlying hu]
  split at hz
  · injection hz with hz; injection hz with e1 e2; subst e1; subst e2
    have rv := eval_rel i hx0 hy (by intros; simp)
    simp only [vrel] at rv
    exact nothing _ _ rv
  · injection hz with hz; injection hz with e1 e2; subst e1; subst e2
    have rv := eval_rel i hx0 hy (by intros; simp)
    simp only [vrel] at rv
    obtain ⟨b, q, cp, sp, v1, _⟩ := rv
    exact nothing _ _ v1
  · injection hz with hz; injection hz with e1 e2; subst e1; subst e2
    have rv := eval_rel i hx0 hy (by intros; simp)
    simp only [vrel] at rv
    obtain ⟨_, _, _, b, q, cp, v1, _⟩ := rv
    exact nothing _ _ v1
  · rename_i id ver off len cap e' hne
    have rv := eval_rel i hx0 hy (by intros; simp)
    simp only [vrel] at rv
    obtain ⟨v1, v2, v0, b, q, cp, v3, v4, v5, v6⟩ := rv
    cases hc : (Nat.beq e' esz && Nat.ble s.h.lock id) with
    | false => rw [hc] at hz; cases hz
    | true =>
    rw [hc] at hz
    rw [Bool.and_eq_true] at hc
    have hee := Nat.eq_of_beq_eq_true hc.1
    have hlk := Nat.le_of_ble_eq_true hc.2
    subst hee
    simp only [cond_true] at hz
    split at hz
    · rename_i v ty cs' fz sx hgt
      cases hc2 : (Nat.beq v ver && Nat.ble fz off) with
      | false => rw [hc2] at hz; cases hz
      | true =>
      rw [hc2] at hz
      rw [Bool.and_eq_true] at hc2
      have hve := Nat.eq_of_beq_eq_true hc2.1
      have hfz := Nat.le_of_ble_eq_true hc2.2
      subst hve
      simp only [cond_true] at hz
      split at hz
      · rename_i cs2 hput
        injection hz with hz; injection hz with e1 e2; subst e1; subst e2
        have hcl : s.h.cells? id v = some (ty, cs', fz, sx) := by unfold AHeap.cells?; rw [hgt]; simp
        obtain ⟨b1, b2, b3, b4, _⟩ := block_of i hcl
        obtain ⟨u1, u2, u3, u4⟩ := v6 b2.symm
        obtain ⟨ti, zv, m, hi, hzv, hm, him, hzl, hzrun, hzr, hzo⟩ := zeroC_ok' hzz
        rw [hm] at he; injection he with he; subst he
        have rn := zeroCells_rel hzr hzl h0 C len
        have on := rep_one hzo len
        obtain ⟨p1, p2, C', p3, p4, _⟩ := write_block i hcl hlk hfz hput rn on
        have hst := run_storeCells_cells (P := P) (C.mu id).blk ((C.mu id).off + off) (Builtin.zeroCells zv.cells len).toList 0 w (by simpa using p1) (by simpa using p2) (vrels_one rn on)
        simp only [Nat.add_zero] at hst
        refine OpOk.value (v := .tuple #[]) (hrun _ _ ?_) (C' := C') (Lm' := Lm) p3 (fun d _ => trel_of_vrel (vrel_noRes C')) p4
        rw [v3, u2, u3]
        cases len with
        | zero => first | exact (hne rfl).elim | exact (hne _ rfl).elim | simp at hne
        | succ len => simp [Builtin.clear_, ht0, run_underlying hu, hzrun, hst]
      · cases hz
    · cases hz
  · cases hz

theorem ok_convBytes (i : Inv n nt C Lm s a w) {o : Oper} {src dst e : TypeId} {x : Operand} (ho : o.op = .convert src dst x) (h1 : P.underlying src = some .string) (h2 : P.underlying dst = some (.slice e)) (h3 : P.underlying e = some (.int .u8)) {y : AOpd} (hx : trOpd x = some y)
    {b : List Nat} (hy : evalO s.t y = .str b) : OpOk P n nt o C a w { s with h := s.h.push (.cells 0 e (b.map fun (c : Nat) => AVal.int .u8 (Int.ofNat c)) 0 true) } (.sl s.h.next 0 0 b.length none 1) := by
  have rv := eval_rel i hx hy (by intros; simp)
  simp only [vrel] at rv
  obtain ⟨st, v1, v2⟩ := rv
  have hlen : b.length = st.size := by rw [← v2, List.length_map]; rfl
  have hge := grownCap_ge w st.size 0 e
  have hsz : (bytesRow st (grownCap w st.size 0 e)).size = grownCap w st.size 0 e := by
    have : st.data.size = st.size := rfl
    simp [bytesRow, this]; omega
  have hr : (execOp a.eval o).run P w = .ok (.value (.slice (some ⟨w.heap.size, 0, none⟩) st.size (grownCap w st.size 0 e)))
      { w.drew with heap := w.heap.push (.cells (bytesRow st (grownCap w st.size 0 e)) e (grownCap w st.size 0 e, grownCap w st.size 0 e + 1)) } := by
    simp only [execOp, ho]
    refine run_v ?_
    rw [v1, run_bytes_of_string w src dst e st h1 h2 h3, hsz]
    rfl
  have hb := push_block (cs := b.map fun (c : Nat) => AVal.int .u8 (Int.ofNat c)) (ty := e) (fr := (grownCap w st.size 0 e, grownCap w st.size 0 e + 1)) (sx := true) (arr := bytesRow st (grownCap w st.size 0 e)) i.hr (by rw [hsz, List.length_map]; omega) (fun j z hz => by
    rw [← v2, List.map_map, List.getElem?_map, Option.map_eq_some_iff] at hz
    obtain ⟨u, hu, rfl⟩ := hz
    refine ⟨rfl, .int .u8 u.toNat, ?_, by simp [vrel]⟩
    obtain ⟨p1, p2⟩ := List.getElem?_eq_some_iff.1 hu
    unfold bytesRow
    rw [Array.getElem?_append_left (by simpa using p1)]
    simp only [Array.getElem?_map]
    rw [← Array.getElem?_toList, hu]; rfl) (.inr (.inr ⟨rfl, by rw [hsz]; exact Nat.le_refl _⟩))
  refine OpOk.value hr (push_inv i hb rfl) (fun d _ => trel_of_vrel ?_) (push_S i.hr n i.base _ _ rfl rfl rfl)
  obtain ⟨f1, f2, f3⟩ := push_facts i.hr (.cells (bytesRow st (grownCap w st.size 0 e)) e (grownCap w st.size 0 e, grownCap w st.size 0 e + 1)) (.cells 0 e (b.map fun (c : Nat) => AVal.int .u8 (Int.ofNat c)) 0 true)
  simp only [vrel]
  rw [← i.σ]
  refine ⟨f1, Nat.zero_le _, Nat.one_pos, _, _, _, by rw [hlen], by omega, (fun k hk => by cases hk), fun _ => ?_⟩
  have hkn : (C.push (.cells (bytesRow st (grownCap w st.size 0 e)) e (grownCap w st.size 0 e, grownCap w st.size 0 e + 1)) (.cells 0 e (b.map fun (c : Nat) => AVal.int .u8 (Int.ofNat c)) 0 true)).known C.σ.next = b.length := by unfold Ctx.known; rw [f3]; simp
  have has : (C.push (.cells (bytesRow st (grownCap w st.size 0 e)) e (grownCap w st.size 0 e, grownCap w st.size 0 e + 1)) (.cells 0 e (b.map fun (c : Nat) => AVal.int .u8 (Int.ofNat c)) 0 true)).asize C.σ.next = grownCap w st.size 0 e := by
    unfold Ctx.asize
    rw [f2]
    simp only [sizeH, Ctx.pushAt, Array.getElem?_push_size]
    exact hsz
  rw [f2, hkn, has]
  refine ⟨by omega, by rw [i.heap], rfl, by show 0 + 0 + _ = _; omega⟩

theorem bytesOf_ok : ∀ {cs : List AVal} {b : List Nat} {vs : List Value}, bytesOf cs = some b → vrels C cs vs → ∃ l : List UInt8, l.map (·.toNat) = b ∧ vs = l.map fun x => Value.int .u8 (x.toNat : Int)
  | [], b, [], h, _ => by simp [bytesOf] at h; subst h; exact ⟨[], rfl, rfl⟩
  | [], _, _ :: _, _, r => by simp [vrels] at r
  | _ :: _, _, [], _, r => by simp [vrels] at r
  | x :: cs, b, v :: vs, h, r => by
    simp only [vrels] at r
    unfold bytesOf at h
    split at h
    · rename_i heq; cases heq
    · rename_i c rr heq
      injection heq with e1 e2
      subst e1; subst e2
      cases hc : Nat.blt c 256 with
      | false => rw [hc] at h; cases h
      | true =>
        rw [hc] at h
        have hlt : c < 256 := Nat.le_of_ble_eq_true hc
        simp only [cond_true] at h
        split at h
        · rename_i l hl
          injection h with h; subst h
          obtain ⟨l', h1, h2⟩ := bytesOf_ok hl r.2
          have r1 := r.1
          simp only [vrel] at r1
          refine ⟨UInt8.ofNat c :: l', ?_, ?_⟩
          · simp [h1]; omega
          · rw [r1, h2]; simp; omega
        · cases h
    · cases h

theorem ok_convStr (i : Inv n nt C Lm s a w) {o : Oper} {src dst e : TypeId} {x : Operand} (ho : o.op = .convert src dst x) (h1 : P.underlying src = some (.slice e)) (h2 : P.underlying dst = some .string) (h3 : P.underlying e = some (.int .u8)) {y : AOpd} (hx : trOpd x = some y)
    {z : AVal} {s' : St} {C0 : Oracle} (hz : aop C0 s (.convStr y) = some (z, s')) : s' = s ∧ OpOk P n nt o C a w s z := by
  simp only [aop] at hz
  have viaSrc : ∀ cs k b, srcCells s.h 1 (evalO s.t y) = some (cs, k) → bytesOf cs = some b → (∃ p len cp, a.eval x = .slice (some p) len cp) → OpOk P n nt o C a w s (.str b) := by
    intro cs k b hs hbs hv
    obtain ⟨on, news, hsrc, rn, hnl, htk⟩ := src_ok (P := P) i hx hs (.inl ⟨e, h1⟩)
    obtain ⟨p, len, cp, hv⟩ := hv
    have hlen := hsrc.len w
    rw [hv] at hlen
    simp only [Builtin.lenOf, Sem.run_pure, Result.ok.injEq, and_true] at hlen
    subst hlen
    obtain ⟨l, hl1, hl2⟩ := bytesOf_ok hbs rn
    have hcells := hsrc.cells
    rw [hv] at hcells
    simp only [Builtin.firstCells, Nat.mul_one] at hcells
    refine OpOk.pure i (v := .string ⟨l.toArray⟩) ?_ (by simp only [vrel]; exact ⟨_, rfl, by simpa using hl1⟩)
    simp only [execOp, ho]
    refine run_v ?_
    rw [hv, run_convert_bytes_string w src dst e (some p) len cp h1 h3 h2, run_bytesToString w p len cp (l.map fun b => (b.toNat : Int)) (by rw [hcells, hl2, List.map_map]; rfl), foldl_push_byteCells]
    simp
  split at hz
  · cases hz
  · rename_i hy
    injection hz with hz; injection hz with e1 e2; subst e1; subst e2
    refine ⟨rfl, ?_⟩
    have rv := eval_rel i hx hy (by intros; simp)
    simp only [vrel] at rv
    refine OpOk.pure i (v := .string .empty) ?_ (by simp only [vrel]; exact ⟨_, rfl, rfl⟩)
    simp only [execOp, ho]
    refine run_v ?_
    rw [rv, run_convert_bytes_string w src dst e none 0 0 h1 h3 h2]
    simp [Conv.bytesToString]
  · split at hz
    · rename_i cs k hs
      split at hz
      · rename_i b hbs
        injection hz with hz; injection hz with e1 e2; subst e1; subst e2
        refine ⟨rfl, viaSrc _ _ _ hs hbs ?_⟩
        generalize hy : evalO s.t y = u at hs
        cases u <;> simp only [srcCells] at hs <;> try cases hs
        all_goals first
          | (have rv := eval_rel i hx hy (by intros; simp)
             simp only [vrel] at rv
             obtain ⟨b, q, cp, sp, v1, _⟩ := rv
             exact ⟨_, _, _, v1⟩)
          | (have rv := eval_rel i hx hy (by intros; simp)
             simp only [vrel] at rv
             obtain ⟨_, _, _, b, q, cp, v1, _⟩ := rv
             exact ⟨_, _, _, v1⟩)
          | (exact absurd hy (by assumption))
          | simp_all
      · cases hz
    · cases hz
end
end Wab
