/- Part 5 of this claim: an abstract interpreter over the model, its soundness, and what is run in it. -/
import Derived.LoopN
import Derived.Scope
import Derived.Test.YthnhpmbmadmmhaaGreatW03
set_option maxRecDepth 20000
set_option linter.unusedSimpArgs false
set_option linter.unusedVariables false
/- Maps with plain keys; strings, rune by rune. -/
namespace Wab
open Go

section
variable {P : Program} {n nt : Nat} {C : Ctx} {Lm : Nat → Option Nat} {s : St} {a : Act} {w : World}

/-- A key's kind. -/
def KeyD (d : TypeDesc) (ft : FT) : Prop := (d = .bool ∧ ft = .bool) ∨ (∃ k, d = .int k ∧ ft = .int) ∨ (d = .string ∧ ft = .str)

theorem keyT_some {t : TypeId} {ft : FT} (h : keyT P t = some ft) : ∃ d, P.underlying t = some d ∧ KeyD d ft := by
  unfold keyT at h
  split at h
  · rename_i hu; injection h with h; exact ⟨_, hu, .inl ⟨rfl, h.symm⟩⟩
  · rename_i k hu; injection h with h; exact ⟨_, hu, .inr (.inl ⟨k, rfl, h.symm⟩)⟩
  · rename_i hu; injection h with h; exact ⟨_, hu, .inr (.inr ⟨rfl, h.symm⟩)⟩
  · cases h

/-- Two keys beside one another: what the interpreter says, the model says at once. -/
theorem key_eq {d : TypeDesc} {ft : FT} (hd : KeyD d ft) {x y : AVal} {u v : Value} (hx : vrel C x u) (hy : vrel C y v) {b : Bool} (h : eqT 8 ft x y = some b) : Instr.sameNow d u v = some b ∧ (b = true → u = v) ∧ ∀ n, Instr.sameBits n u u = true := by
  rcases hd with ⟨rfl, rfl⟩ | ⟨k, rfl, rfl⟩ | ⟨rfl, rfl⟩
  · cases x <;> cases y <;> simp only [eqT] at h <;> try cases h
    simp only [vrel] at hx hy
    subst hx; subst hy
    simp [Instr.sameNow, Instr.sameBits]
  · cases x <;> cases y <;> simp only [eqT] at h <;> try cases h
    rename_i j p l q
    simp only [vrel] at hx hy
    subst hx; subst hy
    by_cases hjl : j = l
    · simp only [hjl, decide_true, cond_true, Option.some.injEq] at h
      subst h
      subst hjl
      simp only [Instr.sameNow, if_true]
      by_cases hpq : p = q <;> simp [hpq, Instr.sameBits]
    · simp [hjl] at h
  · cases x <;> cases y <;> simp only [eqT] at h <;> try cases h
    rename_i p q
    simp only [vrel] at hx hy
    obtain ⟨b1, rfl, e1⟩ := hx
    obtain ⟨b2, rfl, e2⟩ := hy
    simp only [Instr.sameNow, Option.some.injEq]
    subst e1; subst e2
    refine ⟨?_, ?_, fun n => by simp [Instr.sameBits, MapKept.bytes_beq]⟩
    · by_cases he : b1 = b2
      · subst he; simp [MapKept.bytes_beq]
      · have : b1.data.toList.map (·.toNat) ≠ b2.data.toList.map (·.toNat) := fun hh => he (bytes_inj hh)
        have h1 : (b1 == b2) = false := by
          cases hb : (b1 == b2) with
          | false => rfl
          | true => exact absurd (by simpa [MapKept.bytes_beq] using hb) he
        rw [h1]
        symm
        simpa using this
    · intro hb
      rw [show b1 = b2 from bytes_inj (by simpa using hb)]

theorem find_ok {d : TypeDesc} {ft : FT} (hd : KeyD d ft) {k : AVal} {vk : Value} (hk : vrel C k vk) : ∀ (es : List (AVal × AVal × Nat)) (ces : List MapEntry) (i : Nat) (r : Option (Nat × AVal × Nat)), entriesRel C es ces → findA ft k es i = some r →
    (r = none ∧ Instr.findNow d vk ces i = some none) ∨ ∃ j v b u ce, r = some (i + j, v, b) ∧ Instr.findNow d vk ces i = some (some (i + j, u)) ∧ vrel C v u ∧ ces[j]? = some ce ∧ ce.key = vk ∧ ce.val = u ∧ ce.born = b ∧ (∀ n, Instr.sameBits n vk vk = true) ∧ ∃ k', es[j]? = some (k', v, b)
  | [], [], i, r, _, h => by simp [findA] at h; subst h; exact .inl ⟨rfl, rfl⟩
  | [], _ :: _, _, _, h, _ => by simp [entriesRel] at h
  | _ :: _, [], _, _, h, _ => by simp [entriesRel] at h
  | (k', v, b) :: es, ce :: ces, i, r, he, h => by
    simp only [entriesRel] at he
    obtain ⟨⟨h1, h2, h3⟩, he⟩ := he
    unfold findA at h
    split at h
    · rename_i heq
      obtain ⟨g1, g2, g3⟩ := key_eq hd hk h1 heq
      cases hc : ((valEq k k').getD false) with
      | false => rw [hc] at h; cases h
      | true =>
        rw [hc] at h
        simp only [cond_true, Option.some.injEq] at h
        refine .inr ⟨0, v, b, ce.val, ce, h.symm, ?_, h2, rfl, (g2 rfl).symm, rfl, h3.symm, g3, k', rfl⟩
        simp [Instr.findNow, g1]
    · rename_i heq
      obtain ⟨g1, g2, _⟩ := key_eq hd hk h1 heq
      rcases find_ok hd hk es ces (i + 1) r he h with ⟨r1, r2⟩ | ⟨j, v', b', u, ce', r1, r2, r3, r4, r5, r6, r7, r9, k'', r8⟩
      · exact .inl ⟨r1, by simp [Instr.findNow, g1, r2]⟩
      · refine .inr ⟨j + 1, v', b', u, ce', by rw [r1]; congr 2; omega, ?_, r3, by simpa using r4, r5, r6, r7, r9, k'', by simpa using r8⟩
        simp only [Instr.findNow, g1]
        rw [r2]; congr 3; omega
    · cases h

theorem run_check {kt : TypeId} {d : TypeDesc} {ft : FT} (hu : P.underlying kt = some d) (hd : KeyD d ft) (e : Bool) (v : Value) : (Instr.checkKey e 10000 kt v).run P w = .ok () w := by
  show (Instr.checkKey e (9999 + 1) kt v).run P w = _
  unfold Instr.checkKey
  simp only [Sem.run_bind, run_underlying hu, Result.andThen]
  rcases hd with ⟨rfl, _⟩ | ⟨k, rfl, _⟩ | ⟨rfl, _⟩ <;> cases v <;> simp

theorem zeroP_some {t : TypeId} {z : AVal} (h : zeroP P t = some z) : ∃ v, (∀ w : World, (zeroValue t).run P w = .ok v w) ∧ ∀ C : Ctx, vrel C z v := by
  unfold zeroP at h
  cases hi : P.info? t with
  | none => simp [hi] at h
  | some ti =>
    cases hz : ti.zero with
    | none => simp [hi, hz] at h
    | some v =>
      simp only [hi, Option.bind_some, hz] at h
      exact ⟨v, fun w => by simp [zeroValue, run_typeInfo' hi, hz], fun C => trVal_rel C _ _ _ h⟩

theorem ok_lookup (i : Inv n nt C Lm s a w) {o : Oper} {t kt e : TypeId} {x k : Operand} {cok : Bool} (ho : o.op = .lookup t x k cok) (hu : P.underlying t = some (.map kt e)) {ft : FT} (hft : keyT P kt = some ft) {zero : AVal} (hz0 : zeroP P e = some zero) {x' k' : AOpd} (hx : trOpd x = some x') (hk : trOpd k = some k')
    {C0 : Oracle} {z : AVal} {s' : St} (hz : aop C0 s (.lookup ft zero x' k' cok) = some (z, s')) : OpOk P n nt o C a w s' z := by
  obtain ⟨d, hd1, hd2⟩ := keyT_some hft
  obtain ⟨zv, hz1, hz2⟩ := zeroP_some hz0
  simp only [aop] at hz
  have fin : ∀ (v : AVal) (u : Value) (b : Bool), vrel C v u → (execOp a.eval o).run P w = .ok (.value (if cok then .tuple #[u, .bool b] else u)) w → OpOk P n nt o C a w s (cond cok (.tup [v, .bool b]) v) := by
    intro v u b hv hr
    refine OpOk.pure i hr ?_
    cases cok
    · simpa using hv
    · simp only [if_true, cond_true, vrel]; exact ⟨_, rfl, by simp [vrels, vrel, hv]⟩
  split at hz
  · rename_i key hy hky
    injection hz with hz; injection hz with e1 e2; subst e1; subst e2
    have rv := eval_rel i hx hy (by intros; simp)
    simp only [vrel] at rv
    refine fin zero zv false (hz2 C) ?_
    simp only [execOp, ho]
    refine run_v ?_
    rw [rv]
    have hfn : Instr.findNow d (a.eval k) [] 0 = some none := rfl
    simp [Instr.lookup, run_underlying hu, run_check hd1 hd2, MapKept.run_findKey hd1 hfn, hz1]
  · rename_i id key hy hky
    have rk := (nlO_rel i hk hky).2
    have rv := eval_rel i hx hy (by intros; simp)
    simp only [vrel] at rv
    obtain ⟨_, _, rv⟩ := rv
    split at hz
    · rename_i es cl hm
      obtain ⟨_, _, ces, hb1, hb2⟩ := map_block i hm
      rw [← i.heap] at hb1
      split at hz
      · rename_i r j v b hf
        injection hz with hz; injection hz with e1 e2; subst e1; subst e2
        rcases find_ok hd2 rk es ces.toList 0 _ hb2 hf with ⟨r1, _⟩ | ⟨j', v', b', u, ce, r1, r2, r3, _⟩
        · cases r1
        · injection r1 with r1; injection r1 with _ r1; injection r1 with r1 _; subst r1
          refine fin v u true r3 ?_
          simp only [execOp, ho]
          refine run_v ?_
          rw [rv]
          simp [Instr.lookup, run_underlying hu, MapKept.run_getObj_map hb1, Result.andThen, run_check hd1 hd2, MapKept.run_findKey hd1 r2]
      · rename_i hf
        injection hz with hz; injection hz with e1 e2; subst e1; subst e2
        rcases find_ok hd2 rk es ces.toList 0 _ hb2 hf with ⟨_, r2⟩ | ⟨j', v', b', u, ce, r1, _⟩
        · refine fin zero zv false (hz2 C) ?_
          simp only [execOp, ho]
          refine run_v ?_
          rw [rv]
          simp [Instr.lookup, run_underlying hu, MapKept.run_getObj_map hb1, Result.andThen, run_check hd1 hd2, MapKept.run_findKey hd1 r2, hz1]
        · cases r1
      · cases hz
    · cases hz
  · cases hz

/-- A map's block, an iterator's block, is turned. -/
theorem put_obj (i : Inv n nt C Lm s a w) {id : Nat} {b : ABlock} {o0 o' : Obj} (hl : C.live id) (hlk : s.h.lock ≤ id) (hmap : C.isMap id → ∃ es c, b = .amap es c) (hv : C.ver id = 0) (_hbv : bver b = 0) (hkn : C.known id = 0)
    (h0 : w.heap[(C.mu id).blk]? = some o0) (n0 : ∀ x y z, o0 ≠ .cells x y z) (n1 : ∀ x y z, o' ≠ .cells x y z)
    (hb : V C (C.upd id b (C.mu id) (w.heap.setIfInBounds (C.mu id).blk o')) → blockRel (C.upd id b (C.mu id) (w.heap.setIfInBounds (C.mu id).blk o')) (C.mu id) b) :
    ∃ C', Inv n nt C' Lm { s with h := s.h.put id b } a { w with heap := w.heap.setIfInBounds (C.mu id).blk o' } ∧ Stp n C w C' { w with heap := w.heap.setIfInBounds (C.mu id).blk o' } ∧ V C C' := by
  obtain ⟨k1, k2⟩ := MapKept.heap_set (o' := o') h0
  have z0 : sizeH C.H (C.mu id).blk = 0 := by
    unfold sizeH; rw [← i.heap, h0]; cases o0 <;> simp at n0 ⊢
  have z1 : sizeH (w.heap.setIfInBounds (C.mu id).blk o') (C.mu id).blk = 0 := by
    unfold sizeH; rw [k1]; cases o' <;> simp at n1 ⊢
  have same : ∀ k, k ≠ (C.mu id).blk → (w.heap.setIfInBounds (C.mu id).blk o')[k]? = C.H[k]? := fun k hk => by rw [k2 k hk, i.heap]
  have hsz : (w.heap.setIfInBounds (C.mu id).blk o').size = C.H.size := by rw [Array.size_setIfInBounds, i.heap]
  have po : PutOk C id b (C.mu id) (w.heap.setIfInBounds (C.mu id).blk o') :=
    ⟨hl, by rw [hsz]; exact Nat.le_refl _, fun k _ hk => same k hk, .inl rfl, hmap, by rw [hv]; exact Nat.zero_le _, fun _ => ⟨rfl, by rw [hkn]; exact Nat.zero_le _, by rw [z1]; exact z0.symm⟩⟩
  have hV := put_V i.hr po
  have hH := put_H i.hr po (hb hV)
  refine ⟨_, ?_, put_S i.hr n i.base po (by rw [i.σ]; exact hlk) rfl rfl rfl, hV⟩
  refine i.step hV hH (by show C.H.size ≤ (w.heap.setIfInBounds (C.mu id).blk o').size; rw [hsz]; exact Nat.le_refl _) rfl (by simp [Ctx.upd, i.σ]) (fun d b hb => ⟨same b ?_, (i.lb d b hb).2.2⟩)
  intro e
  exact i.hr.free id hl (e ▸ (i.lb d b hb).2.2)

/-- A new map, a new iterator. -/
theorem push_obj (i : Inv n nt C Lm s a w) {b : ABlock} {o : Obj} (hb : V C (C.push o b) → blockRel (C.push o b) ⟨C.H.size, 0⟩ b) :
    Inv n nt (C.push o b) Lm { s with h := s.h.push b } a { w with heap := w.heap.push o } ∧ Stp n C w (C.push o b) { w with heap := w.heap.push o } :=
  ⟨push_inv i (hb (push_V i.hr o b)) rfl, push_S i.hr n i.base _ _ rfl rfl rfl⟩

theorem ok_mkMap (i : Inv n nt C Lm s a w) {o : Oper} {t k e : TypeId} {r : Option Operand} (ho : o.op = .makeMap t r) (hu : P.underlying t = some (.map k e)) (hr : r = none ∨ ∃ j m, r = some (.const (.int j m))) :
    OpOk P n nt o C a w { s with h := s.h.push (.amap [] 0) } (.mp s.h.next) := by
  obtain ⟨h1, h2⟩ := push_obj i (b := .amap [] 0) (o := .map #[] 0) (fun _ => by simp only [blockRel]; exact ⟨#[], by simp [Ctx.pushAt], by simp [entriesRel]⟩)
  refine OpOk.value (v := .map (some w.heap.size)) ?_ h1 (fun d _ => trel_of_vrel ?_) h2
  · simp only [execOp, ho]
    refine run_v ?_
    rcases hr with rfl | ⟨j, m, rfl⟩
    · simp [Instr.makeMap, Result.andThen]
    · simp [Instr.makeMap, run_underlying hu, Act.eval, asInt, asIntOf, Result.andThen]
  · obtain ⟨f1, f2, f3⟩ := push_facts i.hr (.map #[] 0) (.amap [] 0)
    simp only [vrel]
    rw [← i.σ]
    exact ⟨f1, ⟨[], 0, f3⟩, by rw [f2, i.heap]⟩

theorem entriesRel_push {es : List (AVal × AVal × Nat)} {ces : List MapEntry} (h : entriesRel C es ces) {k v : AVal} {b : Nat} {ce : MapEntry} (h1 : vrel C k ce.key) (h2 : vrel C v ce.val) (h3 : b = ce.born) : entriesRel C (es ++ [(k, v, b)]) (ces ++ [ce]) := by
  induction es generalizing ces with
  | nil => cases ces <;> simp [entriesRel] at h ⊢; exact ⟨h1, h2, h3⟩
  | cons x es ih => cases ces <;> simp only [List.cons_append, entriesRel] at h ⊢; exact ⟨h.1, ih h.2⟩

theorem entriesRel_set {es : List (AVal × AVal × Nat)} {ces : List MapEntry} (h : entriesRel C es ces) (j : Nat) {k v : AVal} {b : Nat} {ce : MapEntry} (h1 : vrel C k ce.key) (h2 : vrel C v ce.val) (h3 : b = ce.born) : entriesRel C (es.set j (k, v, b)) (ces.set j ce) := by
  induction es generalizing ces j with
  | nil => cases ces <;> simp [entriesRel] at h ⊢
  | cons x es ih =>
    cases ces with
    | nil => simp [entriesRel] at h
    | cons c ces =>
      simp only [entriesRel] at h
      cases j with
      | zero => simp only [List.set_cons_zero, entriesRel]; exact ⟨⟨h1, h2, h3⟩, h.2⟩
      | succ j => simp only [List.set_cons_succ, entriesRel]; exact ⟨h.1, ih h.2 j⟩

theorem ok_mapUpd (i : Inv n nt C Lm s a w) {o : Oper} {t kt e : TypeId} {m k v : Operand} (ho : o.op = .mapUpdate t m k v ∨ o.op = .insert t m k v) (hu : P.underlying t = some (.map kt e)) {ft : FT} (hft : keyT P kt = some ft) {m' k' v' : AOpd} (hm : trOpd m = some m') (hk : trOpd k = some k') (hvv : trOpd v = some v')
    {C0 : Oracle} {z : AVal} {s' : St} (hz : aop C0 s (.mapUpd ft m' k' v') = some (z, s')) : OpOk P n nt o C a w s' z := by
  obtain ⟨d, hd1, hd2⟩ := keyT_some hft
  simp only [aop] at hz
  split at hz
  · rename_i id key x hy hky hxy
    have rk := (nlO_rel i hk hky).2
    have rx := (nlO_rel i hvv hxy).2
    have rv := eval_rel i hm hy (by intros; simp)
    simp only [vrel] at rv
    obtain ⟨hl, hmp, rv⟩ := rv
    cases hlk : Nat.ble s.h.lock id with
    | false => rw [hlk] at hz; cases hz
    | true =>
    rw [hlk] at hz
    have hlk := Nat.le_of_ble_eq_true hlk
    simp only [cond_true] at hz
    split at hz
    · rename_i es cl hmo
      obtain ⟨_, hg, ces, hb1, hb2⟩ := map_block i hmo
      rw [← i.heap] at hb1
      have hver := Ctx.ver_isMap hmp
      have hkn : C.known id = 0 := by unfold Ctx.known; rw [hg]
      have fin : ∀ (es' : List (AVal × AVal × Nat)) (cl' : Nat) (ces' : Array MapEntry), entriesRel C es' ces'.toList → (Instr.mapUpdate t (.map (some (C.mu id).blk)) (a.eval k) (a.eval v)).run P w = .ok () { w with heap := w.heap.setIfInBounds (C.mu id).blk (.map ces' cl') } →
          OpOk P n nt o C a w { s with h := s.h.put id (.amap es' cl') } noRes := by
        intro es' cl' ces' hr hrun
        obtain ⟨C', p1, p2, p3⟩ := put_obj i (b := .amap es' cl') (o' := .map ces' cl') hl hlk (fun _ => ⟨_, _, rfl⟩) hver rfl hkn hb1 (by simp) (by simp) (fun hV => by
          simp only [blockRel]
          exact ⟨ces', (MapKept.heap_set hb1).1, entriesRel_mono hV _ _ hr⟩)
        refine OpOk.skip ?_ p1 p2
        rw [← rv] at hrun
        rcases ho with ho | ho
        · simp only [execOp, ho]; exact run_u hrun
        · simp only [execOp, ho]; exact run_u hrun
      split at hz
      · rename_i r j vv b hf
        injection hz with hz; injection hz with e1 e2; subst e1; subst e2
        rcases find_ok hd2 rk es ces.toList 0 _ hb2 hf with ⟨r1, _⟩ | ⟨j', v', b', u, ce, r1, r2, r3, r4, r5, r6, r7, r8, _⟩
        · cases r1
        · injection r1 with r1; injection r1 with r0 r1; injection r1 with r1 r1'; subst r1; subst r1'
          simp only [Nat.zero_add] at r0 r2
          subst r0
          have r4' : ces[j]? = some ce := by simpa using r4
          refine fin (es.set j (key, x, b)) cl (ces.modify j fun e => { e with key := a.eval k, val := a.eval v }) ?_ ?_
          · have : (ces.modify j fun e => { e with key := a.eval k, val := a.eval v }).toList = ces.toList.set j { ce with key := a.eval k, val := a.eval v } := by
              apply List.ext_getElem?
              intro q
              rw [Array.getElem?_toList, Array.getElem?_modify, List.getElem?_set]
              by_cases hq : j = q
              · subst hq
                have hlt := (Array.getElem?_eq_some_iff.1 r4').1
                rw [if_pos rfl, if_pos rfl, r4']
                simp [hlt]
              · rw [if_neg hq, if_neg hq, Array.getElem?_toList]
            rw [this]
            exact entriesRel_set hb2 j rk rx r7.symm
          · have hself : (Instr.keyThatStays ce.key (a.eval k)).run P w = .ok (a.eval k) w := by
              rw [r5]
              simp [Instr.keyThatStays, r8]
            simp [Instr.mapUpdate, run_underlying hu, MapKept.run_getObj_map hb1, run_check hd1 hd2, MapKept.run_findKey hd1 r2, r4', hself, MapKept.run_setObj_map _ hb1, Result.andThen]
      · rename_i hf
        injection hz with hz; injection hz with e1 e2; subst e1; subst e2
        rcases find_ok hd2 rk es ces.toList 0 _ hb2 hf with ⟨_, r2⟩ | ⟨j', v', b', u, ce, r1, _⟩
        · refine fin (es ++ [(key, x, cl)]) (cl + 1) (ces.push { key := a.eval k, val := a.eval v, born := cl }) ?_ ?_
          · rw [Array.toList_push]
            exact entriesRel_push hb2 rk rx rfl
          · simp [Instr.mapUpdate, run_underlying hu, MapKept.run_getObj_map hb1, run_check hd1 hd2, MapKept.run_findKey hd1 r2, MapKept.run_setObj_map _ hb1, Result.andThen]
        · cases r1
      · cases hz
    · cases hz
  · cases hz

theorem get_byte (st : ByteArray) (j : Nat) : (st.get! j).toNat = (st.data.toList.map (·.toNat)).getD j 0 := by
  obtain ⟨d⟩ := st
  show (d[j]!).toNat = _
  rw [List.getD_eq_getElem?_getD, List.getElem?_map, Array.getElem?_toList, getElem!_def]
  show _ = (Option.map _ d[j]?).getD 0
  cases d[j]? <;> rfl

theorem ble_dec (a b : Nat) : Nat.ble a b = decide (a ≤ b) := by
  cases h : Nat.ble a b with
  | true => simp [Nat.le_of_ble_eq_true h]
  | false =>
    have : ¬ a ≤ b := fun hh => by rw [Nat.ble_eq_true_of_le hh] at h; cases h
    simp [this]
theorem blt_dec (a b : Nat) : Nat.blt a b = decide (a < b) := ble_dec (a + 1) b
theorem beq_dec (a b : Nat) : Nat.beq a b = (a == b) := by
  cases h : Nat.beq a b with
  | true => simp [Nat.eq_of_beq_eq_true h]
  | false => simp [Nat.ne_of_beq_eq_false h]
theorem valid_nat (c : Nat) : Utf8.valid (c : Int) = (decide (c < 0xD800) || (decide (0xE000 ≤ c) && decide (c ≤ 0x10FFFF))) := by
  unfold Utf8.valid
  have h1 : decide ((0 : Int) ≤ (c : Int)) = true := by simp
  have h2 : decide ((c : Int) < 0xD800) = decide (c < 0xD800) := by apply decide_eq_decide.2; omega
  have h3 : decide ((0xE000 : Int) ≤ (c : Int)) = decide (0xE000 ≤ c) := by apply decide_eq_decide.2; omega
  have h4 : decide ((c : Int) ≤ 0x10FFFF) = decide (c ≤ 0x10FFFF) := by apply decide_eq_decide.2; omega
  rw [h1, h2, h3, h4, Bool.true_and]

theorem decode_eq (st : ByteArray) (pos : Nat) : decodeA (st.data.toList.map (·.toNat)) pos = Utf8.decode st pos := by
  have hl : (st.data.toList.map (·.toNat)).length = st.size := by rw [List.length_map]; rfl
  unfold decodeA Utf8.decode
  simp only [hl, get_byte, Utf8.runeError, Nat.add_zero, ble_dec, blt_dec, beq_dec, valid_nat, cond_eq_ite, decide_eq_true_eq, ge_iff_le]

theorem ok_rangeStr (i : Inv n nt C Lm s a w) {o : Oper} {t : TypeId} {x : Operand} (ho : o.op = .range t x) (hu : P.underlying t = some .string) {x' : AOpd} (hx : trOpd x = some x') {b : List Nat} (hb : evalO s.t x' = .str b) :
    OpOk P n nt o C a w { s with h := s.h.push (.siter b 0) } (.ptr s.h.next 0 0) := by
  have rv := eval_rel i hx hb (by intros; simp)
  simp only [vrel] at rv
  obtain ⟨st, v1, v2⟩ := rv
  obtain ⟨h1, h2⟩ := push_obj i (b := .siter b 0) (o := .stringIter st 0) (fun _ => by simp only [blockRel]; exact ⟨st, by simp [Ctx.pushAt], v2, trivial⟩)
  refine OpOk.value (v := .pointer (some ⟨w.heap.size, 0, none⟩)) ?_ h1 (fun d _ => trel_of_vrel ?_) h2
  · simp only [execOp, ho]
    refine run_v ?_
    rw [v1]
    simp [Instr.range, run_underlying hu, Result.andThen]
  · obtain ⟨f1, f2, f3⟩ := push_facts i.hr (.stringIter st 0) (.siter b 0)
    simp only [vrel]
    rw [← i.σ]
    exact ⟨f1, Nat.zero_le _, _, _, rfl, fun _ => by rw [f2]; exact ⟨by rw [i.heap], rfl⟩⟩

theorem ok_nextStr (i : Inv n nt C Lm s a w) {o : Oper} {x : Operand} (ho : o.op = .next x true) {x' : AOpd} (hx : trOpd x = some x') {C0 : Oracle} {z : AVal} {s' : St} (hz : aop C0 s (.nextStr x') = some (z, s')) : OpOk P n nt o C a w s' z := by
  simp only [aop] at hz
  split at hz
  · rename_i id u hy
    have rv := eval_rel i hx hy (by intros; simp)
    simp only [vrel] at rv
    obtain ⟨hl, hle, b, q, hv, hvq⟩ := rv
    cases hlk : Nat.ble s.h.lock id with
    | false => rw [hlk] at hz; cases hz
    | true =>
    rw [hlk] at hz
    have hlk := Nat.le_of_ble_eq_true hlk
    simp only [cond_true] at hz
    split at hz
    · rename_i bs pos hg
      rw [← i.σ] at hg
      have hver : C.ver id = 0 := by unfold Ctx.ver; rw [hg]
      have hkn : C.known id = 0 := by unfold Ctx.known; rw [hg]
      obtain ⟨bl, g1, g2⟩ := i.hr.here id hl
      rw [hg] at g1; injection g1 with g1; subst g1
      simp only [blockRel] at g2
      obtain ⟨st, g2, g3, g4⟩ := g2
      obtain ⟨p1, p2⟩ := hvq (by omega)
      rw [g4] at p2
      subst p1; subst p2
      rw [← i.heap] at g2
      have hlen : bs.length = st.size := by rw [← g3, List.length_map]; rfl
      have hget : (getObj (C.mu id).blk).run P w = .ok (.stringIter st pos) w := by simp [getObj, Sem.run, g2]
      have hnm : ¬ C.isMap id := fun ⟨es, c, h⟩ => by rw [hg] at h; cases h
      cases hp : Nat.blt pos bs.length with
      | true =>
        rw [hp] at hz
        have hp : pos < bs.length := Nat.le_of_ble_eq_true hp
        injection hz with hz; injection hz with e1 e2; subst e1; subst e2
        obtain ⟨C', p1, p2, p3⟩ := put_obj i (b := .siter bs (pos + (decodeA bs pos).2)) (o' := .stringIter st (pos + (decodeA bs pos).2)) hl hlk (fun h => absurd h hnm) hver rfl hkn g2 (by simp) (by simp) (fun hV => by
          simp only [blockRel]
          exact ⟨st, (MapKept.heap_set g2).1, g3, g4⟩)
        refine OpOk.value (v := .tuple #[.bool true, .int .i64 (pos : Int), .int .i32 ((decodeA bs pos).1 : Int)]) ?_ p1 (fun d _ => trel_of_vrel ?_) p2
        · simp only [execOp, ho]
          refine run_v ?_
          rw [hv]
          have hset : (setObj (C.mu id).blk (.stringIter st (pos + (decodeA bs pos).2))).run P w = .ok () { w with heap := w.heap.setIfInBounds (C.mu id).blk (.stringIter st (pos + (decodeA bs pos).2)) } := by simp [setObj, Sem.run, g2]
          have hd : decodeA bs pos = Utf8.decode st pos := by rw [← g3]; exact decode_eq st pos
          rw [hd] at hset ⊢
          have hps : pos < st.size := by omega
          simp [Instr.next, hget, hps, hset, goInt, Result.andThen]
        · simp only [vrel]
          exact ⟨_, rfl, by simp [vrels, vrel]⟩
      | false =>
        rw [hp] at hz
        have hp : ¬ pos < bs.length := fun h => by rw [show Nat.blt pos bs.length = true from Nat.ble_eq_true_of_le h] at hp; cases hp
        injection hz with hz; injection hz with e1 e2; subst e1; subst e2
        refine OpOk.pure i (v := .tuple #[.bool false]) ?_ (by simp only [vrel]; exact ⟨_, rfl, by simp [vrels, vrel]⟩)
        simp only [execOp, ho]
        refine run_v ?_
        rw [hv]
        have hps : ¬ pos < st.size := by omega
        simp [Instr.next, hget, hps, Result.andThen]
    · cases hz
  · cases hz
end
end Wab
/- Calls: what is to be shown of an oracle; the operations that call. -/
namespace Wab
open Go

/-- What a call must leave. -/
def Post (C : Ctx) (w : World) (r : AVal) (h' : AHeap) (v : Value) (w' : World) : Prop :=
  ∃ C', w'.heap = C'.H ∧ C'.σ = h' ∧ HRel C' ∧ vrel C' r v ∧ Stp C.H.size C w C' w' ∧ ∀ b, C'.F b ↔ C.F b

/-- A call, in the model. -/
def CallOk (P : Program) (f : Nat) (args : Array Value) (w : World) (R : Value → World → Prop) : Prop :=
  (∃ v w', (callFunc f args).run P w = .ok (.value v) w' ∧ R v w') ∨
  ((callFunc f args).run P w = .ok (.enter f args) w ∧ Calls P f args w fun
    | .returned v, w' => R v w'
    | _, _ => False)

def OSound (P : Program) (O : Oracle) : Prop :=
  ∀ (f : Nat) (args : List AVal) (h : AHeap) (r : AVal) (h' : AHeap), O f args h = some (r, h') → ∀ (C : Ctx) (cargs : Array Value) (w : World), w.heap = C.H → C.σ = h → HRel C → vrels C args cargs.toList → CallOk P f cargs w (Post C w r h')

/-- The same of a deferred call. -/
def DSound (P : Program) (O : Oracle) : Prop :=
  ∀ (f : Nat) (args : List AVal) (h : AHeap) (r : AVal) (h' : AHeap), O f args h = some (r, h') → ∀ (C : Ctx) (cargs : Array Value) (w : World), w.heap = C.H → C.σ = h → HRel C → vrels C args cargs.toList →
    (callFunc f cargs).run P w = .ok (.enter f cargs) w ∧ ∀ u, CallsD P f cargs u w fun e u' w' => u' = u ∧ ∃ v, e = .returned v ∧ Post C w r h' v w'

section
variable {P : Program} {n nt : Nat} {C : Ctx} {Lm : Nat → Option Nat} {s : St} {a : Act} {w : World}

theorem HRel.notOwn {C : Ctx} (h : HRel C) {b : Nat} (hb : C.F b) : ¬ C.Own b := by
  rintro ⟨id, hi, rfl⟩; exact h.free id hi hb

/-- Behind a call. -/
theorem Inv.called (i : Inv n nt C Lm s a w) {r : AVal} {h' : AHeap} {v : Value} {w' : World} (p : Post C w r h' v w') : ∃ C', Inv n nt C' Lm { s with h := h' } a w' ∧ vrel C' r v ∧ Stp n C w C' w' := by
  obtain ⟨C', h1, h2, h3, h4, h5, h6⟩ := p
  refine ⟨C', i.step h5.v h3 h5.size h1 h2 (fun d b hb => ?_), h4, h5.mono i.base⟩
  obtain ⟨l1, l2, l3⟩ := i.lb d b hb
  exact ⟨(h5.old b l2 (i.hr.notOwn l3)).1, (h6 b).2 l3⟩

theorem ok_call (i : Inv n nt C Lm s a w) {O : Oracle} (hO : OSound P O) {o : Oper} {c : Call} (ho : o.op = .call c) {f : Operand} (hc : c.callee = .value f) {f' : AOpd} (hf : trOpd f = some f') {xs : List AOpd} (hx : trOpds c.args.toList = some xs) {vs : List AVal} (hv : nlAll s.t xs = some vs)
    {r : AVal} {h' : AHeap} (hz : callA O s (evalO s.t f') vs = some (r, h')) : OpOk P n nt o C a w { s with h := h' } r := by
  generalize hy : evalO s.t f' = u at hz
  unfold callA at hz
  split at hz
  · rename_i g first cap
    have rf := eval_rel i hf hy (by intros; simp)
    simp only [vrel] at rf
    obtain ⟨fc, cc, hfv, r1, r2⟩ := rf
    have rv := nlAll_rel i hx hv
    have hall : vrels C (first ++ vs ++ cap) (fc ++ c.args.map a.eval ++ cc).toList := by
      simp only [Array.toList_append, Array.toList_map]
      exact vrels_append (vrels_append r1 rv) r2
    have ho' : execOp a.eval o = (do let d ← resolve a.eval c o.type; invoke d.target d.args) := by simp [execOp, ho]
    have hrun : ∀ R, (callFunc g (fc ++ c.args.map a.eval ++ cc)).run P w = R → (execOp a.eval o).run P w = R := by
      intro R hR
      rw [ho']
      simp only [resolve, hc, hfv, Deferred.ofValue, Sem.run_bind, Sem.run_pure, Result.andThen_ok, invoke]
      exact hR
    intro K Q hK
    show o.upon P a K Q _
    rcases hO g _ _ _ _ hz C _ w i.heap i.σ i.hr hall with ⟨v, w', h1, h2⟩ | ⟨h1, h2⟩
    · rw [hrun _ h1, Oper.upon_value]
      obtain ⟨C', p1, p2, p3⟩ := i.called h2
      exact hK a v w' C' Lm p1 (fun d _ => trel_of_vrel p2) p3
    · rw [hrun _ h1, Oper.upon_enter]
      refine Calls.mono h2 fun e w' he => ?_
      cases e with
      | returned v =>
        obtain ⟨C', p1, p2, p3⟩ := i.called he
        exact hK a v w' C' Lm p1 (fun d _ => trel_of_vrel p2) p3
      | panicked _ => exact he.elim
      | outgrown => exact he.elim
  · cases hz

theorem ok_defer (i : Inv n nt C Lm s a w) {o : Oper} {c : Call} (ho : o.op = .defer c) {f : Operand} (hc : c.callee = .value f) {f' : AOpd} (hf : trOpd f = some f') {xs : List AOpd} (hx : trOpds c.args.toList = some xs) {g : AVal} {vs : List AVal} (hg : nlO s.t f' = some g) (hv : nlAll s.t xs = some vs)
    (hfn : ∃ fn first cap, g = .func fn first cap) : OpOk P n nt o C a w { s with d := (g, vs) :: s.d } noRes := by
  obtain ⟨fn, first, cap, rfl⟩ := hfn
  have rf := (nlO_rel i hf hg).2
  simp only [vrel] at rf
  obtain ⟨fc, cc, hfv, r1, r2⟩ := rf
  have rv := nlAll_rel i hx hv
  have hrun : (execOp a.eval o).run P w = .ok (.defer { target := .fn fn cc, args := fc ++ c.args.map a.eval }) w := by
    simp [execOp, ho, resolve, hc, hfv, Deferred.ofValue]
  intro K Q hK
  show o.upon P a K Q _
  rw [hrun, Oper.upon_defer]
  refine hK { a with defers := { target := .fn fn cc, args := fc ++ c.args.map a.eval } :: a.defers } undef w C Lm ⟨i.heap, i.σ, i.hr, i.base, i.size, i.tm, i.lo, i.lb, i.li, ?_⟩ (fun d _ => trel_of_vrel (vrel_noRes C)) (Stp.refl _ _ _)
  simp only [defRel]
  exact ⟨⟨fc, cc, c.args.map a.eval, rfl, r1, r2, by simpa using rv⟩, i.de⟩
end
end Wab
/- Every operation that is translated. -/
namespace Wab
open Go

theorem okH_some {s s' : St} {r : Option (AVal × AHeap)} {z : AVal} (h : okH s r = some (z, s')) : ∃ h', r = some (z, h') ∧ s' = { s with h := h' } := by
  cases r with
  | none => simp [okH] at h
  | some p => obtain ⟨v, h'⟩ := p; simp [okH] at h; exact ⟨h', by rw [h.1], h.2.symm⟩
theorem okU_some {s' : St} {r : Option St} {z : AVal} (h : okU r = some (z, s')) : r = some s' ∧ z = noRes := by
  cases r <;> simp [okU] at h; exact ⟨by rw [h.2], h.1.symm⟩

section
variable {P : Program} {n nt : Nat} {C : Ctx} {Lm : Nat → Option Nat} {s : St} {a : Act} {w : World}

theorem op_ok1 (i : Inv n nt C Lm s a w) {O : Oracle} {lm : Locs} {lits : List Nat} {pu : Nat → Bool} {o : Oper} {ao : AOp} (ht : trOp P lm lits pu o = some ao) {z : AVal} {s' : St} (hz : aop O s ao = some (z, s'))
    (hno : ∀ c, o.op ≠ .call c ∧ o.op ≠ .defer c) : OpOk P n nt o C a w s' z := by
  cases hop : o.op <;> simp only [trOp, hop] at ht
  case call c => exact absurd hop (hno c).1
  case defer c => exact absurd hop (hno c).2
  case move x =>
    simp only [Option.map_eq_some_iff] at ht; obtain ⟨y, hy, rfl⟩ := ht
    simp only [aop] at hz; obtain ⟨hz, rfl⟩ := ok1_some hz
    exact ok_mv i (.inl hop) hy hz
  case assign x =>
    simp only [Option.map_eq_some_iff] at ht; obtain ⟨y, hy, rfl⟩ := ht
    simp only [aop] at hz; obtain ⟨hz, rfl⟩ := ok1_some hz
    exact ok_mv i (.inr hop) hy hz
  case pick c x y =>
    split at ht
    · rename_i c' x' y' h1 h2 h3
      injection ht with ht; subst ht
      simp only [aop] at hz
      split at hz
      · rename_i hb; obtain ⟨hz, rfl⟩ := ok1_some hz; exact ok_pick i hop h1 h2 h3 hb hz
      · rename_i hb; obtain ⟨hz, rfl⟩ := ok1_some hz; exact ok_pick i hop h1 h2 h3 hb hz
      · cases hz
    · cases ht
  case alloc e =>
    split at ht
    · rename_i z0 d h1 h2
      split at ht
      · rename_i der h3
        injection ht with ht; subst ht
        simp only [aop] at hz; injection hz with hz; injection hz with e1 e2; subst e1; subst e2
        exact (ok_alloc i hop h1 h2 der).1
      · injection ht with ht; subst ht
        simp only [aop] at hz; injection hz with hz; injection hz with e1 e2; subst e1; subst e2
        exact (ok_alloc i hop h1 h2 []).2
    · cases ht
  case box e x =>
    split at ht
    · rename_i y m d h1 h2 h3
      split at ht
      · rename_i der h4
        injection ht with ht; subst ht
        simp only [aop] at hz
        split at hz
        · rename_i v hv
          cases ho : oneV v with
          | false => rw [ho] at hz; cases hz
          | true =>
            rw [ho] at hz; injection hz with hz; injection hz with e1 e2; subst e1; subst e2
            exact (ok_box i hop h1 hv ho h3 der).1
        · cases hz
      · injection ht with ht; subst ht
        simp only [aop] at hz
        split at hz
        · rename_i v hv
          cases ho : oneV v with
          | false => rw [ho] at hz; cases hz
          | true =>
            rw [ho] at hz; injection hz with hz; injection hz with e1 e2; subst e1; subst e2
            exact (ok_box i hop h1 hv ho h3 []).2
        · cases hz
    · cases ht
  case build t parts =>
    split at ht
    · rename_i z0 fs h1 h2
      cases hf : (fieldsP P fs).all Option.isSome with
      | false => rw [hf] at ht; cases ht
      | true =>
        rw [hf] at ht
        simp only [cond_true, Option.map_eq_some_iff] at ht
        obtain ⟨ps, hp, rfl⟩ := ht
        simp only [aop] at hz
        split at hz
        · rename_i cs hc
          injection hz with hz; injection hz with e1 e2; subst e1; subst e2
          exact ok_build_struct i hop h1 h2 hf hp hc
        · cases hz
    · rename_i z0 len e h1 h2
      split at ht
      · rename_i m hm
        simp only [Option.map_eq_some_iff] at ht
        obtain ⟨ps, hp, rfl⟩ := ht
        simp only [aop] at hz
        split at hz
        · rename_i cs hc
          injection hz with hz; injection hz with e1 e2; subst e1; subst e2
          exact ok_build_array i hop h1 h2 hm hp hc
        · cases hz
      · cases ht
    · cases ht
  case buildSlice t len parts =>
    split at ht
    · rename_i e hu
      split at ht
      · rename_i m z0 hm hz0
        cases hc0 : (Nat.blt 0 m && Nat.ble (len * m) 16777216) with
        | false => rw [hc0] at ht; cases ht
        | true =>
          rw [hc0] at ht
          rw [Bool.and_eq_true] at hc0
          have g1 : 0 < m := Nat.le_of_ble_eq_true hc0.1
          have g2 := Nat.le_of_ble_eq_true hc0.2
          simp only [cond_true, Option.map_eq_some_iff] at ht
          obtain ⟨ps, hp, hao⟩ := ht
          cases hl : lits.contains (o.dst.getD 0) with
          | true =>
            rw [hl] at hao; simp only [cond_true] at hao; subst hao
            simp only [aop] at hz
            split at hz
            · rename_i cs hc
              injection hz with hz; injection hz with e1 e2; subst e1; subst e2
              exact (ok_buildSlice i hop hu hm hz0 (zeroC_len hz0 hm) g1 g2 hp hc).1
            · cases hz
          | false =>
            rw [hl] at hao; simp only [cond_false] at hao; subst hao
            simp only [aop] at hz
            split at hz
            · rename_i cs hc
              cases hpc : cs.all pureC with
              | false => rw [hpc] at hz; cases hz
              | true =>
                rw [hpc] at hz
                injection hz with hz; injection hz with e1 e2; subst e1; subst e2
                exact (ok_buildSlice i hop hu hm hz0 (zeroC_len hz0 hm) g1 g2 hp hc).2 hpc
            · cases hz
      · cases ht
    · cases ht
  case load t x =>
    split at ht
    · rename_i g m y h1 h2 h3
      cases hc : (g || Nat.beq m 1) with
      | false => rw [hc] at ht; cases ht
      | true =>
        rw [hc] at ht; injection ht with ht; subst ht
        simp only [aop] at hz; obtain ⟨hz, rfl⟩ := ok1_some hz
        exact ok_load i hop h1 h2 h3 hz
    · cases ht
  case store t x v =>
    split at ht
    · rename_i m y u h1 h2 h3
      injection ht with ht; subst ht
      simp only [aop] at hz
      split at hz
      · rename_i q hq
        obtain ⟨hz2, rfl⟩ := okU_some hz
        exact ok_store i hop h1 h2 h3 hq hz2
      · cases hz
    · cases ht
  case nilCheck x =>
    simp only [Option.map_eq_some_iff] at ht; obtain ⟨y, hy, rfl⟩ := ht
    obtain ⟨e, h⟩ := ok_nilCheck i hop hy hz
    rw [e]; exact h
  case binOp op t x y yt =>
    split at ht
    · rename_i x' y' h1 h2
      have fin : ∀ k, KindOk P op t x y k → ao = .bin op k x' y' → OpOk P n nt o C a w s' z := by
        intro k hk e
        subst e
        simp only [aop] at hz
        split at hz
        · rename_i xa ya hxa hya
          obtain ⟨hz, rfl⟩ := ok1_some hz
          exact ok_bin i hop h1 h2 hk hxa hya hz
        · cases hz
      split at ht
      · rename_i hk
        cases hc : (isCst x || isCst y) with
        | false => rw [hc] at ht; cases ht
        | true => rw [hc] at ht; injection ht with ht; exact fin .iface (fun _ => ⟨hk.symm, fun _ => hc⟩) ht.symm
      · rename_i hk
        cases hc : (isCst x || isCst y) with
        | false => rw [hc] at ht; cases ht
        | true => rw [hc] at ht; injection ht with ht; exact fin .iface (fun _ => ⟨hk.symm, fun _ => hc⟩) ht.symm
      · rename_i k hk hne
        injection ht with ht
        exact fin _ (fun _ => ⟨rfl, fun e => by first | exact absurd e (by assumption) | simp_all⟩) ht.symm
      · rename_i k hk hne
        injection ht with ht
        exact fin _ (fun _ => ⟨rfl, fun e => by first | exact absurd e (by assumption) | simp_all⟩) ht.symm
      · injection ht with ht
        refine fin .other (fun hh => ?_) ht.symm
        rcases hh with rfl | rfl <;> simp_all
    · cases ht
  case unOp op t x =>
    simp only [Option.map_eq_some_iff] at ht; obtain ⟨y, hy, rfl⟩ := ht
    simp only [aop] at hz; obtain ⟨hz, rfl⟩ := ok1_some hz
    exact ok_un i hop hy hz
  case convert src dst x =>
    split at ht
    · rename_i k0 k y h1 h2 h3
      injection ht with ht; subst ht
      simp only [aop] at hz
      split at hz
      · rename_i j m hm
        injection hz with hz; injection hz with e1 e2; subst e1; subst e2
        exact ok_convInt i hop h1 h2 h3 hm
      · cases hz
    · rename_i y h1 h2 h3
      injection ht with ht; subst ht
      simp only [aop] at hz
      split at hz
      · rename_i b hb
        have hbd : boundsA s.t b.length b.length none none none = some (0, b.length, b.length) := by
          have hb1 : Nat.ble b.length b.length = true := Nat.ble_eq_true_of_le (Nat.le_refl _)
          have hb2 : Nat.ble 0 b.length = true := Nat.ble_eq_true_of_le (Nat.zero_le _)
          unfold boundsA; simp only [hb1, hb2]; rfl
        rw [hbd] at hz
        injection hz with hz; injection hz with e1 e2; subst e1; subst e2
        have rv := eval_rel i h3 hb (by intros; simp)
        refine OpOk.pure i (v := a.eval x) ?_ (by simpa using rv)
        simp only [vrel] at rv
        obtain ⟨st, v1, _⟩ := rv
        simp only [execOp, hop]
        refine run_v ?_
        rw [v1]
        simp [convert, run_underlying h1, run_underlying h2]
      · cases hz
    · rename_i e y h1 h2 h3
      split at ht
      · rename_i h4
        injection ht with ht; subst ht
        obtain ⟨e, h⟩ := ok_convStr i hop h1 h2 h4 h3 hz
        rw [e]; exact h
      · cases ht
    · rename_i e y h1 h2 h3
      split at ht
      · rename_i h4
        injection ht with ht; subst ht
        simp only [aop] at hz
        split at hz
        · rename_i b hb
          injection hz with hz; injection hz with e1 e2; subst e1; subst e2
          exact ok_convBytes i hop h1 h2 h4 h3 hb
        · cases hz
      · cases ht
    · cases ht
  case sliceToArrayPointer t x =>
    split at ht
    · rename_i m e y h1 h2
      simp only [Option.map_eq_some_iff] at ht; obtain ⟨k, hk, rfl⟩ := ht
      obtain ⟨e, h⟩ := ok_arrPtr i hop h1 h2 hz
      rw [e]; exact h
    · cases ht
  case makeInterface t x =>
    split at ht
    · cases ht
    · rename_i d y h1 h2 h3
      injection ht with ht; subst ht
      simp only [aop] at hz
      split at hz
      · rename_i v hv
        injection hz with hz; injection hz with e1 e2; subst e1; subst e2
        exact ok_mkIface i hop h2 (fun ms e => h1 ms e) h3 hv
      · cases hz
    · cases ht
  case makeFunc fn fi ca =>
    split at ht
    · rename_i f' c' h1 h2
      injection ht with ht; subst ht
      simp only [aop] at hz
      split at hz
      · rename_i fz cz h3 h4
        injection hz with hz; injection hz with e1 e2; subst e1; subst e2
        exact ok_mkFunc i hop h1 h2 h3 h4
      · cases hz
    · cases ht
  case makeMap t r =>
    split at ht
    · rename_i k e h1
      injection ht with ht; subst ht
      simp only [aop] at hz; injection hz with hz; injection hz with e1 e2; subst e1; subst e2
      exact ok_mkMap i hop h1 (.inl rfl)
    · rename_i k e j m h1
      injection ht with ht; subst ht
      simp only [aop] at hz; injection hz with hz; injection hz with e1 e2; subst e1; subst e2
      exact ok_mkMap i hop h1 (.inr ⟨_, _, rfl⟩)
    · cases ht
  case makeSlice t l c =>
    split at ht
    · rename_i e l' c' h1 h2 h3
      split at ht
      · rename_i m b z0 h4 h5 h6
        cases hc : Nat.blt 0 m with
        | false => rw [hc] at ht; cases ht
        | true =>
          rw [hc] at ht; injection ht with ht; subst ht
          have g1 : 0 < m := Nat.le_of_ble_eq_true hc
          simp only [aop] at hz
          split at hz
          · rename_i kl kc h7 h8
            cases hq : (Nat.ble kl kc && Nat.ble (kc * b) 140737488355328 && Nat.ble kc 9223372036854775807) with
            | false => rw [hq] at hz; cases hz
            | true =>
              rw [hq] at hz
              simp only [Bool.and_eq_true] at hq
              injection hz with hz; injection hz with e1 e2; subst e1; subst e2
              exact ok_mkSlice i hop h1 h2 h3 h4 h5 h6 g1 h7 h8 (Nat.le_of_ble_eq_true hq.1.1) (Nat.le_of_ble_eq_true hq.1.2) (Nat.le_of_ble_eq_true hq.2)
          · cases hz
      · cases ht
    · cases ht
  case slice t x lo hi mx =>
    split at ht
    · rename_i y l h h1 h2 h3 h4 h5
      injection ht with ht; subst ht
      simp only [aop] at hz
      split at hz
      · rename_i b hb
        split at hz
        · rename_i l' h' m' hbd
          injection hz with hz; injection hz with e1 e2; subst e1; subst e2
          rcases trOO_none h5 with ⟨rfl, _⟩ | ⟨_, _, _, e, _⟩
          · exact ok_sliceStr i hop h1 h2 h3 h4 hb hbd
          · cases e
        · cases hz
      · cases hz
    · rename_i e y l h m h1 h2 h3 h4 h5
      simp only [Option.map_eq_some_iff] at ht; obtain ⟨k, hk, rfl⟩ := ht
      simp only [aop] at hz; obtain ⟨hz, rfl⟩ := ok1_some hz
      exact ok_sliceSl i hop h1 hk h2 h3 h4 h5 hz
    · rename_i len e y l h m h1 h2 h3 h4 h5
      simp only [Option.map_eq_some_iff] at ht; obtain ⟨k, hk, rfl⟩ := ht
      simp only [aop] at hz; obtain ⟨hz, rfl⟩ := ok1_some hz
      exact ok_sliceArr i hop (.inl h1) hk h2 h3 h4 h5 hz
    · rename_i r y l h m h1 h2 h3 h4 h5
      split at ht
      · rename_i len e h6
        simp only [Option.map_eq_some_iff] at ht; obtain ⟨k, hk, rfl⟩ := ht
        simp only [aop] at hz; obtain ⟨hz, rfl⟩ := ok1_some hz
        exact ok_sliceArr i hop (.inr ⟨_, h1, h6⟩) hk h2 h3 h4 h5 hz
      · cases ht
    · cases ht
  case fieldAddr st x f =>
    split at ht
    · rename_i fs y d h1 h2 h3
      split at ht
      · rename_i g h4
        split at ht
        · rename_i m h5
          cases hc : Nat.blt 0 m with
          | false => rw [hc] at ht; cases ht
          | true =>
            rw [hc] at ht; injection ht with ht; subst ht
            obtain ⟨e, h⟩ := ok_fieldAddr i hop h1 h4 h5 (Nat.le_of_ble_eq_true hc) h2 h3 hz
            rw [e]; exact h
        · cases ht
      · cases ht
    · cases ht
  case field st x f =>
    split at ht
    · rename_i fs y h1 h2
      split at ht
      · rename_i g h4
        split at ht
        · rename_i m ag h5 h6
          cases hc : (ag || Nat.beq m 1) with
          | false => rw [hc] at ht; cases ht
          | true =>
            rw [hc] at ht; injection ht with ht; subst ht
            obtain ⟨e, h⟩ := ok_field i hop h1 h4 h5 h6 h2 hz
            rw [e]; exact h
        · cases ht
      · cases ht
    · cases ht
  case indexAddr t x ix =>
    split at ht
    · rename_i len e y iy d h1 h2 h3 h4
      simp only [Option.map_eq_some_iff] at ht; obtain ⟨k, hk, rfl⟩ := ht
      obtain ⟨e, h⟩ := ok_indexAddrArr i hop h1 hk h2 h3 h4 hz
      rw [e]; exact h
    · rename_i e y iy h1 h2 h3
      simp only [Option.map_eq_some_iff] at ht; obtain ⟨k, hk, rfl⟩ := ht
      obtain ⟨e, h⟩ := ok_indexAddrSl i hop h1 hk h2 h3 hz
      rw [e]; exact h
    · cases ht
  case index t x ix =>
    split at ht
    · rename_i y iy h1 h2 h3
      injection ht with ht; subst ht
      obtain ⟨e, h⟩ := ok_indexStr i hop h1 h2 h3 hz
      rw [e]; exact h
    · rename_i len e y iy h1 h2 h3
      split at ht
      · rename_i m ag h5 h6
        cases hc : (ag || Nat.beq m 1) with
        | false => rw [hc] at ht; cases ht
        | true =>
          rw [hc] at ht; injection ht with ht; subst ht
          obtain ⟨e, h⟩ := ok_indexArr i hop h1 h5 h6 h2 h3 hz
          rw [e]; exact h
      · cases ht
    · cases ht
  case lookup t x k cok =>
    split at ht
    · rename_i kt e x' k' h1 h2 h3
      split at ht
      · rename_i z0 h4
        simp only [Option.map_eq_some_iff] at ht; obtain ⟨ft, hft, rfl⟩ := ht
        exact ok_lookup i hop h1 hft h4 h2 h3 hz
      · cases ht
    · cases ht
  case mapUpdate t m k v =>
    split at ht
    · rename_i kt e m' k' v' h1 h2 h3 h4
      simp only [Option.map_eq_some_iff] at ht; obtain ⟨ft, hft, rfl⟩ := ht
      exact ok_mapUpd i (.inl hop) h1 hft h2 h3 h4 hz
    · cases ht
  case insert t m k v =>
    split at ht
    · rename_i kt e m' k' v' h1 h2 h3 h4
      simp only [Option.map_eq_some_iff] at ht; obtain ⟨ft, hft, rfl⟩ := ht
      exact ok_mapUpd i (.inr hop) h1 hft h2 h3 h4 hz
    · cases ht
  case range t x =>
    split at ht
    · rename_i y h1 h2
      injection ht with ht; subst ht
      simp only [aop] at hz
      split at hz
      · rename_i b hb
        injection hz with hz; injection hz with e1 e2; subst e1; subst e2
        exact ok_rangeStr i hop h1 h2 hb
      · cases hz
    · cases ht
  case next it b =>
    cases b with
    | false => cases ht
    | true =>
      simp only [cond_true, Option.map_eq_some_iff] at ht; obtain ⟨y, hy, rfl⟩ := ht
      exact ok_nextStr i hop hy hz
  case typeAssert x xt t ok =>
    split at ht
    · cases ht
    · rename_i d y z0 h1 h2 h3 h4
      injection ht with ht; subst ht
      obtain ⟨e, h⟩ := ok_assertC i hop h2 (fun ms e => h1 ms e) h3 h4 hz
      rw [e]; exact h
    · cases ht
  case extract x k =>
    simp only [Option.map_eq_some_iff] at ht; obtain ⟨y, hy, rfl⟩ := ht
    simp only [aop] at hz
    split at hz
    · rename_i vs hv
      obtain ⟨hz2, rfl⟩ := ok1_some hz
      exact ok_extract i hop hy hv hz2
    · cases hz
  all_goals cases ht
end
end Wab
/- Operations that call. -/
namespace Wab
open Go

section
variable {P : Program} {n nt : Nat} {C : Ctx} {Lm : Nat → Option Nat} {s : St} {a : Act} {w : World}

/-- What is called as pure leaves the abstract heap as it is. -/
def PureOk (pu : Nat → Bool) (O : Oracle) : Prop := ∀ f, pu f = true → ∀ args h r h', O f args h = some (r, h') → h' = h

theorem op_ok (i : Inv n nt C Lm s a w) {O : Oracle} (hO : OSound P O) {lm : Locs} {lits : List Nat} {pu : Nat → Bool} (hp : PureOk pu O) {o : Oper} {ao : AOp} (ht : trOp P lm lits pu o = some ao) {z : AVal} {s' : St} (hz : aop O s ao = some (z, s')) : OpOk P n nt o C a w s' z := by
  by_cases hcall : ∃ c, o.op = .call c
  · obtain ⟨c, hop⟩ := hcall
    simp only [trOp, hop] at ht
    split at ht
    · rename_i f xs hcal hxs
      simp only [Option.map_eq_some_iff] at ht
      obtain ⟨f', hf, rfl⟩ := ht
      simp only [aop] at hz
      split at hz
      · rename_i vs hvs
        split at hz
        · rename_i v h' hc
          injection hz with hz; injection hz with e1 e2; subst e1
          have key := ok_call i hO hop hcal hf hxs hvs hc
          cases f with
          | func k =>
            simp only [trOpd, Option.some.injEq] at hf
            subst hf
            simp only at e2
            cases hpk : pu k with
            | false => rw [hpk] at e2; simp only [cond_false] at e2; subst e2; exact key
            | true =>
              rw [hpk] at e2; simp only [cond_true] at e2; subst e2
              simp only [evalO, callA] at hc
              have := hp k hpk _ _ _ _ hc
              subst this
              exact key
          | tmp k => simp only [cond_false] at e2; subst e2; exact key
          | const k => simp only [cond_false] at e2; subst e2; exact key
          | global k => simp only [cond_false] at e2; subst e2; exact key
        · cases hz
      · cases hz
    · rename_i b as hcal hxs
      split at ht
      · rename_i ss xx ts tx hty
        split at ht
        · rename_i e kk h1 h2
          split at ht
          · rename_i m k z0 h3 h4 h5
            cases hc : (Nat.blt 0 m && Nat.blt 0 k) with
            | false => rw [hc] at ht; cases ht
            | true =>
              rw [hc] at ht; injection ht with ht; subst ht
              rw [Bool.and_eq_true] at hc
              simp only [aop] at hz
              split at hz
              · rename_i q hq
                cases hl : Nat.ble (q * k) 140737488355328 with
                | false => rw [hl] at hz; cases hz
                | true =>
                  rw [hl] at hz
                  obtain ⟨h', hz2, rfl⟩ := okH_some hz
                  exact ok_appendZ i hop hcal hty hxs rfl h1 h2 h3 h4 h5 (Nat.le_of_ble_eq_true hc.1) (Nat.le_of_ble_eq_true hc.2) hq (Nat.le_of_ble_eq_true hl) hz2
              · cases hz
          · cases ht
        · rename_i e e2 h1 h2
          split at ht
          · rename_i m k z0 h3 h4 h5
            cases hc : (Nat.blt 0 m && Nat.blt 0 k) with
            | false => rw [hc] at ht; cases ht
            | true =>
              rw [hc] at ht; injection ht with ht; subst ht
              rw [Bool.and_eq_true] at hc
              simp only [aop] at hz
              obtain ⟨h', hz2, rfl⟩ := okH_some hz
              exact ok_append i hop hcal hty hxs rfl h1 (.inl ⟨_, h2⟩) h3 h4 h5 (Nat.le_of_ble_eq_true hc.1) (Nat.le_of_ble_eq_true hc.2) hz2
          · cases ht
        · rename_i e h1 h2
          split at ht
          · rename_i m k z0 h3 h4 h5
            cases hc : (Nat.blt 0 m && Nat.blt 0 k) with
            | false => rw [hc] at ht; cases ht
            | true =>
              rw [hc] at ht; injection ht with ht; subst ht
              rw [Bool.and_eq_true] at hc
              simp only [aop] at hz
              obtain ⟨h', hz2, rfl⟩ := okH_some hz
              exact ok_append i hop hcal hty hxs rfl h1 (.inr h2) h3 h4 h5 (Nat.le_of_ble_eq_true hc.1) (Nat.le_of_ble_eq_true hc.2) hz2
          · cases ht
        · cases ht
      · rename_i dd xx ts rr hty
        split at ht
        · rename_i e h1
          simp only [Option.map_eq_some_iff] at ht
          obtain ⟨m, hm, rfl⟩ := ht
          simp only [aop] at hz
          obtain ⟨h', hz2, rfl⟩ := okH_some hz
          exact ok_copy i hop hcal hty hxs rfl h1 hm hz2
        · cases ht
      · rename_i xx t rr hty
        split at ht
        · rename_i h1
          injection ht with ht; subst ht
          simp only [aop] at hz; obtain ⟨hz2, rfl⟩ := ok1_some hz
          exact ok_len i hop hcal hty hxs rfl (.inl ⟨rfl, h1⟩) hz2
        · rename_i e h1
          injection ht with ht; subst ht
          simp only [aop] at hz; obtain ⟨hz2, rfl⟩ := ok1_some hz
          exact ok_len i hop hcal hty hxs rfl (.inr (.inl ⟨rfl, _, h1⟩)) hz2
        · rename_i k e h1
          injection ht with ht; subst ht
          simp only [aop] at hz; obtain ⟨hz2, rfl⟩ := ok1_some hz
          exact ok_len i hop hcal hty hxs rfl (.inr (.inr ⟨rfl, _, _, h1⟩)) hz2
        · rename_i m e h1
          injection ht with ht; subst ht
          simp only [aop] at hz; injection hz with hz; injection hz with e1 e2; subst e1; subst e2
          exact ok_lenC i hop hcal hty hxs rfl (.inl ⟨_, h1⟩)
        · rename_i r h1
          split at ht
          · rename_i m e h2
            injection ht with ht; subst ht
            simp only [aop] at hz; injection hz with hz; injection hz with e1 e2; subst e1; subst e2
            exact ok_lenC i hop hcal hty hxs rfl (.inr ⟨_, _, h1, h2⟩)
          · cases ht
        · cases ht
      · rename_i xx t rr hty
        split at ht
        · rename_i e h1
          split at ht
          · rename_i m z0 h3 h4
            cases hc : Nat.blt 0 m with
            | false => rw [hc] at ht; cases ht
            | true =>
              rw [hc] at ht; injection ht with ht; subst ht
              exact ok_clear i hop hcal hty hxs rfl h1 h4 h3 (Nat.le_of_ble_eq_true hc) hz
          · cases ht
        · cases ht
      · rename_i xx t rr hty
        split at ht
        · rename_i e h1
          injection ht with ht; subst ht
          simp only [aop] at hz
          split at hz
          · rename_i hy
            injection hz with hz; injection hz with e1 e2; subst e1; subst e2
            exact ok_cap i hop hcal hty hxs rfl h1 (k := 0) (.inl ⟨hy, rfl⟩)
          · rename_i e' ys hy
            injection hz with hz; injection hz with e1 e2; subst e1; subst e2
            exact ok_cap i hop hcal hty hxs rfl h1 (.inr (.inl ⟨_, _, hy, rfl⟩))
          · rename_i id ver off len k e' hy
            injection hz with hz; injection hz with e1 e2; subst e1; subst e2
            exact ok_cap i hop hcal hty hxs rfl h1 (.inr (.inr ⟨_, _, _, _, _, hy⟩))
          · cases hz
        · cases ht
      · injection ht with ht; subst ht
        simp only [aop] at hz
        split at hz
        · rename_i v vs hv
          obtain ⟨hz2, rfl⟩ := ok1_some hz
          exact ok_max i hop hcal hxs hv hz2
        · cases hz
      · injection ht with ht; subst ht
        simp only [aop] at hz
        split at hz
        · rename_i v vs hv
          obtain ⟨hz2, rfl⟩ := ok1_some hz
          exact ok_min i hop hcal hxs hv hz2
        · cases hz
      · cases ht
    · cases ht
  · by_cases hdef : ∃ c, o.op = .defer c
    · obtain ⟨c, hop⟩ := hdef
      simp only [trOp, hop] at ht
      split at ht
      · rename_i f xs hcal hxs
        simp only [Option.map_eq_some_iff] at ht
        obtain ⟨f', hf, rfl⟩ := ht
        simp only [aop] at hz
        split at hz
        · rename_i fn x y vs hg hvs
          injection hz with hz; injection hz with e1 e2; subst e1; subst e2
          exact ok_defer i hop hcal hf hxs hg hvs ⟨_, _, _, rfl⟩
        · cases hz
      · cases ht
    · exact op_ok1 i ht hz fun c => ⟨fun e => hcall ⟨c, e⟩, fun e => hdef ⟨c, e⟩⟩
end
end Wab
/- A frame's own box becomes a block of the abstract heap's: nothing happens in the world. -/
namespace Wab
open Go

section
variable {n nt : Nat} {C : Ctx} {Lm : Nat → Option Nat} {s : St} {a : Act} {w : World}

/-- The context behind. -/
def Ctx.adopt (C : Ctx) (b ty : Nat) (cs : List AVal) : Ctx :=
  { σ := C.σ.push (.cells 0 ty cs 0 false), H := C.H, mu := fun i => if i = C.σ.next then ⟨b, 0⟩ else C.mu i, F := fun x => C.F x ∧ x ≠ b }

variable {b ty : Nat} {cs : List AVal}

theorem adopt_get (id : Nat) : (C.adopt b ty cs).σ.m.get id = if id = C.σ.next then some (.cells 0 ty cs 0 false) else C.σ.m.get id := by
  simp only [Ctx.adopt, get_push]

theorem adopt_live {id : Nat} : (C.adopt b ty cs).live id ↔ id = C.σ.next ∨ C.live id := by
  unfold Ctx.live; rw [adopt_get]
  by_cases h : id = C.σ.next
  · simp [h]
  · simp [h]

theorem adopt_own {k : Nat} (h : (C.adopt b ty cs).Own k) : k = b ∨ C.Own k := by
  obtain ⟨id, hi, hb⟩ := h
  by_cases he : id = C.σ.next
  · left; simp only [Ctx.adopt, he, if_true] at hb; exact hb.symm
  · right
    refine ⟨id, (adopt_live.1 hi).resolve_left he, ?_⟩
    simp only [Ctx.adopt, he, if_false] at hb; exact hb

theorem adopt_V (h : HRel C) (hF : C.F b) : V C (C.adopt b ty cs) := by
  have hne : ∀ id, C.live id → id ≠ C.σ.next := fun id hi e => by have := h.lt hi; omega
  have hg : ∀ id, C.live id → (C.adopt b ty cs).σ.m.get id = C.σ.m.get id := fun id hi => by rw [adopt_get, if_neg (hne id hi)]
  have hm : ∀ id, C.live id → (C.adopt b ty cs).mu id = C.mu id := fun id hi => by simp only [Ctx.adopt]; rw [if_neg (hne id hi)]
  refine ⟨fun id hi => adopt_live.2 (.inr hi), fun id hi m => ?_, fun id hi => ?_, fun j hj h1 h2 => ?_⟩
  · obtain ⟨es, c, m⟩ := m; exact ⟨es, c, by rw [hg id hi]; exact m⟩
  · refine ⟨by simp [Ctx.ver, hg id hi], fun _ => ⟨hm id hi, by simp [Ctx.known, hg id hi], ?_⟩⟩
    simp only [Ctx.asize, hm id hi]; rfl
  · refine ⟨rfl, fun ho => ?_, fun hf => h2 hf.1⟩
    rcases adopt_own ho with e | e
    · subst e; exact h2 hF
    · exact h1 e

theorem adopt_H (h : HRel C) (hF : C.F b) {arr : Array Value} (hb : C.H[b]? = some (.cells arr ty (0, 0))) (hs : arr.size = cs.length) (hc : ∀ (j : Nat) (x : AVal), cs[j]? = some x → holds C b j x) : HRel (C.adopt b ty cs) := by
  have v := adopt_V (ty := ty) (cs := cs) h hF
  have hm : ∀ id, id ≠ C.σ.next → (C.adopt b ty cs).mu id = C.mu id := fun id hi => by simp only [Ctx.adopt]; rw [if_neg hi]
  have hmk : (C.adopt b ty cs).mu C.σ.next = ⟨b, 0⟩ := by simp [Ctx.adopt]
  have hl : ∀ id, id ≠ C.σ.next → (C.adopt b ty cs).live id → C.live id := fun id hi hh => (adopt_live.1 hh).resolve_left hi
  refine ⟨fun id hi => ?_, fun id hi => ?_, fun i j hi hj e => ?_, fun i hi => ?_, fun k hk => h.small k hk.1, ?_⟩
  · by_cases he : id = C.σ.next
    · subst he
      refine ⟨_, by rw [adopt_get, if_pos rfl], ?_⟩
      rw [hmk]
      simp only [blockRel]
      refine ⟨arr, (0, 0), hb, by omega, fun j hj => ?_, .inl rfl⟩
      rw [Nat.zero_add]
      exact holds_mono v rfl (hc j cs[j] (by simp))
    · have hi' := hl id he hi
      obtain ⟨b', g, r⟩ := h.here id hi'
      refine ⟨b', by rw [adopt_get, if_neg he]; exact g, ?_⟩
      rw [hm id he]
      exact blockRel_mono v rfl r
  · have hi' : C.σ.next + 1 ≤ id := hi
    rw [adopt_get, if_neg (by omega)]; exact h.gone id (by omega)
  · by_cases h1 : i = C.σ.next <;> by_cases h2 : j = C.σ.next
    · omega
    · subst h1; rw [hmk, hm j h2] at e; exact absurd (e ▸ hF) (h.free j (hl j h2 hj))
    · subst h2; rw [hmk, hm i h1] at e; exact absurd (e ▸ hF) (h.free i (hl i h1 hi))
    · rw [hm i h1, hm j h2] at e; exact h.inj i j (hl i h1 hi) (hl j h2 hj) e
  · by_cases h1 : i = C.σ.next
    · subst h1; rw [hmk]; intro hf; exact hf.2 rfl
    · rw [hm i h1]; exact fun hf => h.free i (hl i h1 hi) hf.1
  · have := h.lock
    show C.σ.lock ≤ C.σ.next + 1
    omega

theorem adopt_S (h : HRel C) (n : Nat) (hF : C.F b) (hn : n ≤ b) (w : World) : Stp n C w (C.adopt b ty cs) w := by
  refine ⟨rfl, rfl, rfl, Nat.le_refl _, Nat.le_succ _, adopt_V h hF, fun k hk ho => ⟨rfl, fun h2 => ?_⟩, fun k hk => ⟨fun hf => hf.1, fun hf => ⟨hf, by omega⟩⟩, rfl, fun id hi => ?_⟩
  · rcases adopt_own h2 with e | e
    · omega
    · exact ho e
  · have := h.lock
    have hne : id ≠ C.σ.next := by omega
    refine ⟨by rw [adopt_get, if_neg hne], ?_⟩
    simp only [Ctx.adopt]; rw [if_neg hne]

theorem promote1_ok (i : Inv n nt C Lm s a w) {d : Nat} {s' : St} (hp : promote1 s d = some s') : ∃ C' Lm', Inv n nt C' Lm' s' a w ∧ Stp n C w C' w := by
  unfold promote1 at hp
  split at hp
  · rename_i e bx ht hl
    rw [cond_beq] at hp
    split at hp
    · rename_i he
      subst he
      injection hp with hp
      obtain ⟨b, hL, arr, k1, k2, k3⟩ := i.lo e bx hl
      obtain ⟨l1, l2, l3⟩ := i.lb e b hL
      have hV := adopt_V (ty := bx.ty) (cs := bx.cells) i.hr l3
      have hH := adopt_H i.hr l3 k1 k2 k3
      refine ⟨C.adopt b bx.ty bx.cells, fun x => if x = e then none else Lm x, ?_, adopt_S i.hr n l3 l1 w⟩
      subst hp
      refine ⟨i.heap, by rw [← i.σ]; rfl, hH, i.base, i.size, fun t => ?_, fun d' bx' hb' => ?_, fun d' b' hb' => ?_, fun d1 d2 b' h1 h2 => ?_, defRel_mono hV _ _ i.de⟩
      · simp only [Tr.get_set, clearT_get]
        by_cases hte : t = e
        · subst hte
          rw [if_pos rfl]
          have h0 := i.tm t
          rw [ht] at h0
          obtain ⟨_, b', hb1, hb2⟩ := h0.1 t 0 rfl
          rw [hL] at hb1; injection hb1 with hb1; subst hb1
          refine trel_of_vrel ?_
          simp only [Option.getD_some, vrel]
          rw [← i.σ]
          refine ⟨adopt_live.2 (.inl rfl), Nat.zero_le _, b, 0, hb2, fun _ => ?_⟩
          simp [Ctx.adopt]
        · rw [if_neg hte]
          by_cases hc : t ∈ e :: bx.der
          · rw [if_pos hc]
            exact ⟨fun d' off h => (by cases h), fun _ => by simp [vrel]⟩
          · rw [if_neg hc]
            refine ⟨fun d' off h => ?_, fun hx => vrel_mono hV _ _ ((i.tm t).2 hx)⟩
            obtain ⟨⟨bx1, p1, p2⟩, b1, p3, p4⟩ := (i.tm t).1 d' off h
            have hne : d' ≠ e := by
              intro h'; subst h'
              rw [hl] at p1; injection p1 with p1; subst p1
              rcases p2 with p2 | p2
              · exact hte p2
              · exact hc (List.mem_cons_of_mem _ p2)
            exact ⟨⟨bx1, by rw [Tr.get_set, if_neg hne]; exact p1, p2⟩, b1, by show (if d' = e then none else Lm d') = some b1; rw [if_neg hne]; exact p3, p4⟩
      · simp only [Tr.get_set] at hb'
        by_cases hdd : d' = e
        · rw [if_pos hdd] at hb'; cases hb'
        · rw [if_neg hdd] at hb'
          obtain ⟨b', q1, q2⟩ := i.lo d' bx' hb'
          exact ⟨b', by show (if d' = e then none else Lm d') = some b'; rw [if_neg hdd]; exact q1, boxRel_mono hV rfl q2⟩
      · by_cases hdd : d' = e
        · rw [if_pos hdd] at hb'; cases hb'
        · rw [if_neg hdd] at hb'
          obtain ⟨q1, q2, q3⟩ := i.lb d' b' hb'
          exact ⟨q1, q2, q3, fun h => hdd (i.li d' e b' hb' (by rw [h]; exact hL))⟩
      · by_cases e1 : d1 = e
        · rw [if_pos e1] at h1; cases h1
        · by_cases e2 : d2 = e
          · rw [if_pos e2] at h2; cases h2
          · rw [if_neg e1] at h1; rw [if_neg e2] at h2; exact i.li d1 d2 b' h1 h2
    · cases hp
  · cases hp

theorem promoteL_ok : ∀ (ds : List Nat) {C : Ctx} {Lm : Nat → Option Nat} {s s' : St}, Inv n nt C Lm s a w → promoteL ds s = some s' → ∃ C' Lm', Inv n nt C' Lm' s' a w ∧ Stp n C w C' w
  | [], C, Lm, s, s', i, h => by
    simp [promoteL] at h; subst h
    exact ⟨C, Lm, i, Stp.refl _ _ _⟩
  | d :: ds, C, Lm, s, s', i, h => by
    unfold promoteL at h
    split at h
    · rename_i s1 h1
      obtain ⟨C1, Lm1, i1, st1⟩ := promote1_ok i h1
      obtain ⟨C2, Lm2, i2, st2⟩ := promoteL_ok ds i1 h
      exact ⟨C2, Lm2, i2, st1.trans st2⟩
    · cases h
end
end Wab
/- Runs: regions in the order of the text, and the code around them. -/
namespace Wab
open Go

section
variable {P : Program} {n nt : Nat} {C : Ctx} {Lm : Nat → Option Nat} {s : St} {a : Act} {w : World}

/-- An operation's guard, translated. -/
def GuardTr (all : Array Oper) (o : Oper) (g : Option (Nat × Bool)) : Prop :=
  match o.guard with
  | none => g = none
  | some (j, b) => ∃ d, (all[j]?).bind (·.dst) = some d ∧ g = some (d, b)

theorem yielded_of {all : Array Oper} {tmps : Array Value} {j d : Nat} (hd : (all[j]?).bind (·.dst) = some d) {v : Value} (hv : tmps.getD d undef = v) : (∀ c, v = .bool c → yielded all tmps j = some c) ∧ ((∀ c, v ≠ .bool c) → yielded all tmps j = none) := by
  unfold yielded
  rw [hd]
  simp only [Option.bind_some]
  rw [Array.getD_eq_getD_getElem?] at hv
  cases hx : tmps[d]? with
  | none =>
    rw [hx] at hv
    simp only [Option.getD_none] at hv
    subst hv
    exact ⟨fun c e => by simp [undef] at e, fun _ => rfl⟩
  | some u =>
    rw [hx] at hv
    simp only [Option.getD_some] at hv
    subst hv
    cases u <;> first | exact ⟨fun c e => by cases e; rfl, fun h => absurd rfl (h _)⟩ | exact ⟨(fun c e => by cases e), fun _ => rfl⟩

theorem guard_ok (i : Inv n nt C Lm s a w) {all : Array Oper} {o : Oper} {g : Option (Nat × Bool)} (hg : GuardTr all o g) {b : Bool} (h : guardA s.t g = some b) : Region.wanted o (yielded all a.tmps) = b := by
  unfold GuardTr at hg
  unfold Region.wanted
  split at hg
  · rename_i hn
    subst hg
    simp [guardA] at h; subst h
    simp [hn]
  · rename_i j want hn
    obtain ⟨d, hd, rfl⟩ := hg
    simp only [hn]
    have ht := i.tm d
    simp only [guardA] at h
    split at h
    · rename_i c hc
      injection h with h; subst h
      rw [hc] at ht
      have hv := ht.2 (by intros; simp)
      simp only [Option.getD_some, vrel] at hv
      rw [(yielded_of hd hv).1 c rfl]
      cases c <;> cases want <;> rfl
    · rename_i vs hc
      injection h with h; subst h
      rw [hc] at ht
      have hv := ht.2 (by intros; simp)
      simp only [Option.getD_some, vrel] at hv
      obtain ⟨arr, hv, _⟩ := hv
      rw [(yielded_of hd hv).2 (by intros; simp)]
      rfl
    · rename_i hc
      injection h with h; subst h
      rw [hc] at ht
      have hv := ht.2 (by intros; simp [noRes])
      simp only [Option.getD_none, noRes, vrel] at hv
      obtain ⟨arr, hv, _⟩ := hv
      rw [(yielded_of hd hv).2 (by intros; simp)]
      rfl
    · cases h

/-- One translated operation. -/
def OperTr (P : Program) (lm : Locs) (lits : List Nat) (nt : Nat) (pu : Nat → Bool) (all : Array Oper) (o : Oper) (x : AOper) : Prop :=
  trOp P lm lits pu o = some x.op ∧ x.dst = o.dst ∧ (∀ d, o.dst = some d → d < nt) ∧ GuardTr all o x.guard

theorem trOpers_cons {lm : Locs} {lits : List Nat} {pu : Nat → Bool} {all : Array Oper} {o : Oper} {os : List Oper} {l : List AOper} (h : trOpers P lm lits nt pu all (o :: os) = some l) :
    ∃ x r, l = x :: r ∧ OperTr P lm lits nt pu all o x ∧ trOpers P lm lits nt pu all os = some r := by
  unfold trOpers at h
  split at h
  · rename_i op r h1 h2
    cases hc : dstOk nt o.dst with
    | false => rw [hc] at h; cases h
    | true =>
      rw [hc] at h
      simp only [cond_true] at h
      have hd : ∀ d, o.dst = some d → d < nt := fun d e => by rw [e] at hc; exact Nat.le_of_ble_eq_true hc
      split at h
      · rename_i hg
        injection h with h
        exact ⟨_, _, h.symm, ⟨h1, rfl, hd, by unfold GuardTr; rw [hg]⟩, h2⟩
      · rename_i j b hg
        split at h
        · rename_i d hj
          injection h with h
          exact ⟨_, _, h.symm, ⟨h1, rfl, hd, by unfold GuardTr; rw [hg]; exact ⟨d, hj, rfl⟩⟩, h2⟩
        · cases h
  · cases h

theorem Inv.skipped (i : Inv n nt C Lm s a w) {dst : Option Nat} (hd : ∀ d, dst = some d → d < nt) : Inv n nt C Lm (s.put dst noRes) (a.put dst undef) w :=
  i.put dst hd fun _ _ => trel_of_vrel (vrel_noRes C)

theorem region_ok {O : Oracle} (hO : OSound P O) {lm : Locs} {lits : List Nat} {pu : Nat → Bool} (hp : PureOk pu O) {all : Array Oper} {Q : Exit → Act → World → Prop} :
    ∀ (os : List Oper) (l : List AOper) {C : Ctx} {Lm : Nat → Option Nat} {s s' : St} {a : Act} {w : World}, trOpers P lm lits nt pu all os = some l → arun O l s = some s' → Inv n nt C Lm s a w →
      (∀ a' w' C' Lm', Inv n nt C' Lm' s' a' w' → Stp n C w C' w' → Q .normal a' w') → wpList P all Q os a w
  | [], l, C, Lm, s, s', a, w, ht, hr, i, hq => by
    simp [trOpers] at ht; subst ht
    simp [arun] at hr; subst hr
    exact hq a w C Lm i (Stp.refl _ _ _)
  | o :: os, l, C, Lm, s, s', a, w, ht, hr, i, hq => by
    obtain ⟨x, r, rfl, ⟨h1, h2, h3, h4⟩, h5⟩ := trOpers_cons ht
    unfold arun at hr
    split at hr
    · cases hr
    · rename_i hg
      have hw := guard_ok i h4 hg
      simp only [wpList, hw]
      simp only [Bool.false_eq_true, if_false]
      rw [h2] at hr
      exact region_ok hO hp os r h5 hr (i.skipped h3) hq
    · rename_i hg
      have hw := guard_ok i h4 hg
      simp only [wpList, hw, if_true]
      split at hr
      · cases hr
      · rename_i z s1 hz
        refine .inl (op_ok i hO hp h1 hz _ Q fun a1 v w1 C1 Lm1 i1 t1 s1' => ?_)
        rw [h2] at hr
        exact region_ok hO hp os r h5 hr (i1.put o.dst h3 t1) fun a' w' C' Lm' i' st => hq a' w' C' Lm' i' (s1'.trans st)

def exitOf : AExit → Exit
  | .normal => .normal
  | .exit id => .exit id
  | .ret => .ret

/-- What is to be shown of code. -/
def CodeOk (P : Program) (O : Oracle) (n nt : Nat) (c : Code) (ac : ACode) : Prop :=
  ∀ (k : Nat) (s s' : St) (e : AExit), aexec O k ac s = some (e, s') → ∀ (C : Ctx) (Lm : Nat → Option Nat) (a : Act) (w : World), Inv n nt C Lm s a w → ∀ Q : Exit → Act → World → Prop,
    (∀ a' w' C' Lm', Inv n nt C' Lm' s' a' w' → Stp n C w C' w' → Q (exitOf e) a' w') → c.wp P Q a w

theorem loop_ok {O : Oracle} {c : Code} {ac : ACode} (h : CodeOk P O n nt c ac) (k : Nat) : ∀ (m : Nat) (s s' : St) (e : AExit), loopN (aexec O k ac) m s = some (e, s') → ∀ (C : Ctx) (Lm : Nat → Option Nat) (a : Act) (w : World), Inv n nt C Lm s a w → ∀ Q : Exit → Act → World → Prop,
    (∀ a' w' C' Lm', Inv n nt C' Lm' s' a' w' → Stp n C w C' w' → Q (exitOf e) a' w') → Code.rounds P c Q m a w
  | 0, s, s', e, hr, C, Lm, a, w, i, Q, hq => by simp [loopN] at hr
  | m + 1, s, s', e, hr, C, Lm, a, w, i, Q, hq => by
    rw [rounds_succ]
    unfold loopN at hr
    cases hb : aexec O k ac s with
    | none => rw [hb] at hr; cases hr
    | some p =>
      obtain ⟨e1, s1⟩ := p
      rw [hb] at hr
      refine h k s s1 e1 hb C Lm a w i _ fun a1 w1 C1 Lm1 i1 st1 => ?_
      cases e1 with
      | normal =>
        simp only at hr
        exact loop_ok h k m s1 s' e hr C1 Lm1 a1 w1 i1 Q fun a' w' C' Lm' i' st' => hq a' w' C' Lm' i' (st1.trans st')
      | exit id =>
        simp only [Option.some.injEq, Prod.mk.injEq] at hr
        obtain ⟨rfl, rfl⟩ := hr
        exact hq a1 w1 C1 Lm1 i1 st1
      | ret =>
        simp only [Option.some.injEq, Prod.mk.injEq] at hr
        obtain ⟨rfl, rfl⟩ := hr
        exact hq a1 w1 C1 Lm1 i1 st1

theorem code_ok {O : Oracle} (hO : OSound P O) {lm : Locs} {lits : List Nat} {pu : Nat → Bool} (hp : PureOk pu O)
    (hD : ∀ (id : Nat) (ops : Array Oper) (l : List AOper), trOpers P lm lits nt pu ops ops.toList = some l → edgesOk ops = true → CodeOk P O n nt (.region id ops true) (.regionD (Region.before ops).toList l)) :
    ∀ c : Code, CodeOk P O n nt c (trCode P lm lits nt pu c)
  | .skip => fun k s s' e h C Lm a w i Q hq => by
    simp only [trCode, aexec, Option.some.injEq, Prod.mk.injEq] at h
    obtain ⟨rfl, rfl⟩ := h
    exact wp_skip (hq a w C Lm i (Stp.refl _ _ _))
  | .label l => fun k s s' e h C Lm a w i Q hq => by
    simp only [trCode, aexec, Option.some.injEq, Prod.mk.injEq] at h
    obtain ⟨rfl, rfl⟩ := h
    exact wp_label (hq a w C Lm i (Stp.refl _ _ _))
  | .region id ops draw => by
    simp only [trCode]
    split
    · rename_i l hl
      cases draw with
      | false =>
        simp only [cond_false]
        intro k s s' e h C Lm a w i Q hq
        simp only [aexec] at h
        split at h
        · rename_i s1 hs1
          simp only [Option.some.injEq, Prod.mk.injEq] at h
          obtain ⟨rfl, rfl⟩ := h
          exact wp_region_list (region_ok hO hp ops.toList l hl hs1 i hq)
        · cases h
      | true =>
        simp only [cond_true]
        cases he : edgesOk ops with
        | false => intro k s s' e h; simp [aexec] at h
        | true =>
          simp only [cond_true]
          split
          · exact hD id ops l hl he
          · rename_i ds _
            intro k s s' e h C Lm a w i Q hq
            simp only [aexec] at h
            cases hx : arunD O (Region.before ops).toList l s with
            | none => rw [hx] at h; cases h
            | some s1 =>
              rw [hx] at h
              simp only at h
              split at h
              · rename_i s2 h2
                simp only [Option.some.injEq, Prod.mk.injEq] at h
                obtain ⟨rfl, rfl⟩ := h
                refine hD id ops l hl he k s s1 .normal (by simp only [aexec, hx]) C Lm a w i Q fun a' w' C' Lm' i' st' => ?_
                obtain ⟨C2, Lm2, i2, st2⟩ := promoteL_ok _ i' h2
                exact hq a' w' C2 Lm2 i2 (st'.trans st2)
              · cases h
    · intro k s s' e h; simp [aexec] at h
  | .seq x y => fun k s s' e h C Lm a w i Q hq => by
    simp only [trCode, aexec] at h
    refine wp_seq ?_
    cases hx : aexec O k (trCode P lm lits nt pu x) s with
    | none => rw [hx] at h; cases h
    | some p =>
      obtain ⟨e1, s1⟩ := p
      rw [hx] at h
      refine code_ok hO hp hD x k s s1 e1 hx C Lm a w i _ fun a1 w1 C1 Lm1 i1 st1 => ?_
      cases e1 with
      | normal =>
        simp only at h
        exact code_ok hO hp hD y k s1 s' e h C1 Lm1 a1 w1 i1 Q fun a' w' C' Lm' i' st' => hq a' w' C' Lm' i' (st1.trans st')
      | exit id =>
        simp only [Option.some.injEq, Prod.mk.injEq] at h
        obtain ⟨rfl, rfl⟩ := h
        exact hq a1 w1 C1 Lm1 i1 st1
      | ret =>
        simp only [Option.some.injEq, Prod.mk.injEq] at h
        obtain ⟨rfl, rfl⟩ := h
        exact hq a1 w1 C1 Lm1 i1 st1
  | .cond c x y => by
    simp only [trCode]
    split
    · rename_i c' hc
      intro k s s' e h C Lm a w i Q hq
      simp only [aexec] at h
      split at h
      · rename_i hb
        have := eval_rel i hc hb (by intros; simp)
        simp only [vrel] at this
        exact wp_cond_true this (code_ok hO hp hD x k s s' e h C Lm a w i Q hq)
      · rename_i hb
        have := eval_rel i hc hb (by intros; simp)
        simp only [vrel] at this
        exact wp_cond_false this (code_ok hO hp hD y k s s' e h C Lm a w i Q hq)
      · cases h
    · intro k s s' e h; simp [aexec] at h
  | .block id b => fun k s s' e h C Lm a w i Q hq => by
    simp only [trCode, aexec] at h
    refine wp_block ?_
    cases hx : aexec O k (trCode P lm lits nt pu b) s with
    | none => rw [hx] at h; cases h
    | some p =>
      obtain ⟨e1, s1⟩ := p
      rw [hx] at h
      refine code_ok hO hp hD b k s s1 e1 hx C Lm a w i _ fun a1 w1 C1 Lm1 i1 st1 => ?_
      cases e1 with
      | normal =>
        simp only [Option.some.injEq, Prod.mk.injEq] at h
        obtain ⟨rfl, rfl⟩ := h
        exact hq a1 w1 C1 Lm1 i1 st1
      | exit j =>
        simp only at h
        rw [cond_beq] at h
        simp only [exitOf, Exit.inBlock]
        split at h
        · rename_i hj
          rw [if_pos hj]
          simp only [Option.some.injEq, Prod.mk.injEq] at h
          obtain ⟨rfl, rfl⟩ := h
          exact hq a1 w1 C1 Lm1 i1 st1
        · rename_i hj
          rw [if_neg hj]
          simp only [Option.some.injEq, Prod.mk.injEq] at h
          obtain ⟨rfl, rfl⟩ := h
          exact hq a1 w1 C1 Lm1 i1 st1
      | ret =>
        simp only [Option.some.injEq, Prod.mk.injEq] at h
        obtain ⟨rfl, rfl⟩ := h
        exact hq a1 w1 C1 Lm1 i1 st1
  | .loop b => fun k s s' e h C Lm a w i Q hq => by
    simp only [trCode, aexec] at h
    exact wp_loop_rounds k (loop_ok (code_ok hO hp hD b) k k s s' e h C Lm a w i Q hq)
  | .exit id => fun k s s' e h C Lm a w i Q hq => by
    simp only [trCode, aexec, Option.some.injEq, Prod.mk.injEq] at h
    obtain ⟨rfl, rfl⟩ := h
    exact wp_exit (hq a w C Lm i (Stp.refl _ _ _))
  | .scope b => fun k s s' e h C Lm a w i Q hq => by
    simp only [trCode] at h
    refine wp_scope_straight (code_ok hO hp hD b k s s' e h C Lm a w i _ fun a' w' C' Lm' i' st' => ?_)
    have := hq a' w' C' Lm' i' st'
    cases e <;> exact this
  | .ret => fun k s s' e h C Lm a w i Q hq => by
    simp only [trCode, aexec, Option.some.injEq, Prod.mk.injEq] at h
    obtain ⟨rfl, rfl⟩ := h
    exact wp_ret (hq a w C Lm i (Stp.refl _ _ _))
  | .goto l => fun k s s' e h => by simp [trCode, aexec] at h
  | .refuse l => fun k s s' e h => by simp [trCode, aexec] at h
  | .rangeFunc f ps x y => fun k s s' e h => by simp [trCode, aexec] at h
end
end Wab
