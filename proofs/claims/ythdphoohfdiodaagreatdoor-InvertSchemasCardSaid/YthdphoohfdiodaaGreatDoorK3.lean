/- No condition. -/
import Derived.Test.YthdphoohfdiodaaGreatDoorK2
import Derived.Test.YthdphoohfdiodaaGreatDoorProg
set_option linter.unusedVariables false
set_option linter.unusedSimpArgs false
namespace Groat
open Go Go.Ref
@[irreducible] def tlvE (x : ByteArray) : Int := ((r10_Get x).map fun r => Sum.elim (fun (w : Zt9 × Int × Int) => w.2.1) (fun (w : Zt9 × Int × Int) => w.2.1) r).getD 0
theorem valC_iff (s : Spec) (x : ByteArray) (hx : x.size ≤ 1099511627776) : valC s x = 0 ↔ specC s = 0 ∧ s.2.2.2.1 ≤ (x.size : Int) ∧ (x.size : Int) ≤ s.2.2.2.2.1 ∧ (bl x).all (isC s.2.1) = true ∧ (s.2.1 = 6 → tlvE x = 0) := by
  have h := Value11_eq s x hx
  unfold r11_Value r11_Value_s0 at h
  rw [specCheck11_eq, Option.bind_some, First04_eq _ _ (by rw [maxLen_eq]; omega), Option.bind_some] at h
  obtain ⟨r, hr⟩ := tlv10_total x hx
  have ht : tlvE x = Sum.elim (fun (w : Zt9 × Int × Int) => w.2.1) (fun (w : Zt9 × Int × Int) => w.2.1) r := by unfold tlvE; rw [hr]; rfl
  rw [hr, Option.bind_some] at h
  by_cases c1 : specC s = 0
  · rw [decide_eq_true c1, Bool.not_true, cond_false] at h
    by_cases c2 : (x.size : Int) < s.2.2.2.1
    · rw [decide_eq_true c2, cond_true] at h
      have := Option.some.inj h
      exact ⟨fun e => by omega, fun e => by omega⟩
    rw [decide_eq_false c2, cond_false] at h
    by_cases c3 : s.2.2.2.2.1 < (x.size : Int)
    · rw [decide_eq_true c3, cond_true] at h
      have := Option.some.inj h
      exact ⟨fun e => by omega, fun e => by omega⟩
    rw [decide_eq_false c3, cond_false] at h
    have hf := firstC_none s.2.1 (bl x) 0 (Int.le_refl _)
    by_cases c4 : (0 : Int) ≤ firstC s.2.1 (bl x) 0
    · rw [decide_eq_true c4, cond_true] at h
      have := Option.some.inj h
      exact ⟨fun e => by omega, fun e => absurd e.2.2.2.1 (hf.1 c4)⟩
    rw [decide_eq_false c4, cond_false] at h
    have hall : (bl x).all (isC s.2.1) = true := by
      cases hq : (bl x).all (isC s.2.1) with
      | true => rfl
      | false => exact absurd (hf.2 (by rw [hq]; decide)) c4
    by_cases c5 : s.2.1 = 6
    · rw [decide_eq_true c5, cond_true] at h
      have key : (bif (!decide (tlvE x = 0)) then some (13 : Int) else some 0) = some (valC s x) := by
        rw [← h]
        cases r with
        | inl r => rw [Sum.elim_inl] at ht ⊢; rw [← ht]
        | inr r => rw [Sum.elim_inr] at ht ⊢; rw [← ht]
      by_cases c6 : tlvE x = 0
      · rw [decide_eq_true c6] at key
        have := Option.some.inj key
        exact ⟨fun _ => ⟨c1, by omega, by omega, hall, fun _ => c6⟩, fun _ => this.symm⟩
      · rw [decide_eq_false c6] at key
        have := Option.some.inj key
        exact ⟨fun e => by omega, fun e => absurd (e.2.2.2.2 c5) c6⟩
    · rw [decide_eq_false c5, cond_false] at h
      have := Option.some.inj h
      exact ⟨fun _ => ⟨c1, by omega, by omega, hall, fun e => absurd e c5⟩, fun _ => this.symm⟩
  · rw [decide_eq_false c1, Bool.not_false, cond_true] at h
    have := Option.some.inj h
    exact ⟨fun e => by omega, fun e => absurd e.1 c1⟩
theorem widS_iff (a b : Spec) : widS a b = true ↔ specC a = 0 ∧ specC b = 0 ∧ a.2.2.2.1 ≤ b.2.2.2.1 ∧ b.2.2.2.2.1 ≤ a.2.2.2.2.1 ∧ (a.2.1 = 5 ∨ (a.2.1 = 6 ∧ b.2.1 = 6) ∨ (a.2.1 ≠ 5 ∧ a.2.1 ≠ 6 ∧ b.2.1 ≠ 6 ∧ widerC a.2.1 b.2.1 = true)) := by
  have h := Wider11_eq a b
  unfold r11_Wider r11_Wider_s0 at h
  rw [specCheck11_eq, specCheck11_eq, Wider04_eq] at h
  simp only [Option.bind_some] at h
  by_cases c1 : specC a = 0
  · rw [decide_eq_true c1, Bool.not_true, cond_false] at h
    by_cases c2 : specC b = 0
    · rw [decide_eq_true c2, Bool.not_true, cond_false] at h
      by_cases c3 : b.2.2.2.1 < a.2.2.2.1
      · rw [decide_eq_true c3, cond_true] at h
        have := Option.some.inj h
        exact ⟨fun e => (by rw [e] at this; cases this), fun e => by omega⟩
      rw [decide_eq_false c3, cond_false] at h
      by_cases c4 : a.2.2.2.2.1 < b.2.2.2.2.1
      · rw [decide_eq_true c4, cond_true] at h
        have := Option.some.inj h
        exact ⟨fun e => (by rw [e] at this; cases this), fun e => by omega⟩
      rw [decide_eq_false c4, cond_false] at h
      by_cases c5 : a.2.1 = 5
      · rw [decide_eq_true c5, cond_true] at h
        have := Option.some.inj h
        exact ⟨fun _ => ⟨c1, c2, by omega, by omega, .inl c5⟩, fun _ => this.symm⟩
      rw [decide_eq_false c5, cond_false] at h
      by_cases c6 : a.2.1 = 6
      · rw [decide_eq_true c6, cond_true] at h
        have := Option.some.inj h
        rw [← this, decide_eq_true_eq]
        exact ⟨fun e => ⟨c1, c2, by omega, by omega, .inr (.inl ⟨c6, by omega⟩)⟩, fun e => by omega⟩
      rw [decide_eq_false c6, cond_false] at h
      by_cases c7 : b.2.1 = 6
      · rw [decide_eq_true c7, cond_true] at h
        have := Option.some.inj h
        rw [← this, decide_eq_true_eq]
        exact ⟨fun e => by omega, fun e => by omega⟩
      rw [decide_eq_false c7, cond_false] at h
      have := Option.some.inj h
      rw [← this]
      refine ⟨fun e => ⟨c1, c2, by omega, by omega, .inr (.inr ⟨c5, c6, c7, e⟩)⟩, fun e => ?_⟩
      rcases e.2.2.2.2 with e | e | e
      · exact absurd e c5
      · exact absurd e.1 c6
      · exact e.2.2.2
    · rw [decide_eq_false c2, Bool.not_false, cond_true] at h
      have := Option.some.inj h
      exact ⟨fun e => (by rw [e] at this; cases this), fun e => absurd e.2.1 c2⟩
  · rw [decide_eq_false c1, Bool.not_false, cond_true] at h
    have := Option.some.inj h
    exact ⟨fun e => (by rw [e] at this; cases this), fun e => absurd e.1 c1⟩
theorem specC_facts {s : Spec} (h : specC s = 0) : (2 ≤ s.1 ∧ s.1 ≤ 128) ∧ (1 ≤ s.2.1 ∧ s.2.1 ≤ 6) ∧ (1 ≤ s.2.2.1 ∧ s.2.2.1 ≤ 3) ∧ (1 ≤ s.2.2.2.1 ∧ s.2.2.2.1 ≤ s.2.2.2.2.1 ∧ s.2.2.2.2.1 ≤ 999) ∧ (s.2.2.1 = 1 → s.2.2.2.1 = s.2.2.2.2.1) ∧ ¬ (s.2.2.1 = 1 ∧ s.2.1 = 6) := by
  unfold specC at h
  split at h
  · omega
  split at h
  · omega
  split at h
  · omega
  split at h
  · omega
  split at h
  · omega
  · omega
theorem wid_fin : ∀ a b : Fin 7, widerC (a.1 : Int) (b.1 : Int) = true → a.1 ≠ 5 → a.1 ≠ 6 → b.1 ≠ 6 → (a.1 = b.1 ∨ (a.1 = 3 ∧ (b.1 = 1 ∨ b.1 = 2)) ∨ (a.1 = 4 ∧ (b.1 = 1 ∨ b.1 = 2 ∨ b.1 = 3))) := by decide +kernel
theorem wid_class {a b : Int} (h : widerC a b = true) (h5 : a ≠ 5) (h6 : a ≠ 6) (h7 : b ≠ 6) : a = b ∨ (a = 3 ∧ (b = 1 ∨ b = 2)) ∨ (a = 4 ∧ (b = 1 ∨ b = 2 ∨ b = 3)) := by
  have hr : 1 ≤ a ∧ a ≤ 6 ∧ 1 ≤ b ∧ b ≤ 6 := by
    unfold widerC at h
    rw [Bool.and_eq_true, decide_eq_true_eq] at h
    exact h.1
  obtain ⟨x, rfl⟩ := in_fin ⟨hr.1, hr.2.1⟩
  obtain ⟨y, rfl⟩ := in_fin ⟨hr.2.2.1, hr.2.2.2⟩
  have := wid_fin x y h (by omega) (by omega) (by omega)
  omega
theorem isC_mono {a b x : Int} (h : a = b ∨ (a = 3 ∧ (b = 1 ∨ b = 2)) ∨ (a = 4 ∧ (b = 1 ∨ b = 2 ∨ b = 3))) (hx : isC b x = true) : isC a x = true := by
  rcases h with rfl | ⟨rfl, rfl | rfl⟩ | ⟨rfl, rfl | rfl | rfl⟩
  · exact hx
  all_goals
    simp [isC] at hx ⊢
    omega
theorem isC_five (x : Int) : isC 5 x = true := by simp [isC]
theorem valC_wider {y x : Spec} {t : ByteArray} (ht : t.size ≤ 1099511627776) (hw : widS y x = true) (hv : valC x t = 0) : valC y t = 0 := by
  obtain ⟨w1, w2, w3, w4, w5⟩ := (widS_iff y x).1 hw
  obtain ⟨v1, v2, v3, v4, v5⟩ := (valC_iff x t ht).1 hv
  refine (valC_iff y t ht).2 ⟨w1, by omega, by omega, ?_, ?_⟩
  · rcases w5 with e | e | e
    · rw [e, List.all_eq_true]; exact fun b _ => isC_five b
    · rw [e.1, ← e.2]; exact v4
    · rw [List.all_eq_true] at v4 ⊢
      exact fun b hb => isC_mono (wid_class e.2.2.2 e.1 e.2.1 e.2.2.1) (v4 b hb)
  · intro e6
    rcases w5 with e | e | e
    · omega
    · exact v5 e.2
    · exact absurd e6 e.2.1
theorem isC_one : isC 1 = isDig := by funext b; simp [isC, isDig]
theorem all_one (l : List Int) : l.all (isC 1) = allD l := by rw [isC_one]; rfl
theorem padD_ok {t : ByteArray} {w : Int} (h : (padD t w).2 = true) : 1 ≤ w ∧ w ≤ 999 ∧ (((padD t w).1).size : Int) = w ∧ allD (bl (padD t w).1) = true := by
  by_cases hc : 1 ≤ t.size ∧ t.size ≤ 999 ∧ allD (bl t) = true ∧ 1 ≤ w ∧ w ≤ 999
  · rw [padD_t hc] at h ⊢
    by_cases h4 : (t.size : Int) ≤ w
    · rw [decide_eq_true h4, cond_true]
      have hd : allD (List.replicate (w - t.size).toNat 48 ++ bl t) = true := by
        have e : allD (List.replicate (w - t.size).toNat 48 ++ bl t) = (allD (List.replicate (w - t.size).toNat 48) && allD (bl t)) := List.all_append ..
        have e2 : allD (List.replicate (w - t.size).toNat 48) = true := by
          rw [allD, List.all_eq_true]
          intro x hx
          rw [(List.mem_replicate.1 hx).2]; rfl
        rw [e, e2, hc.2.2.1]; rfl
      refine ⟨hc.2.2.2.1, hc.2.2.2.2, ?_, ?_⟩
      · rw [strOf_size, List.length_append, List.length_replicate, bl_length]; omega
      · rw [bl_strOf (dig_byte hd)]; exact hd
    · rw [decide_eq_false h4, cond_false] at h ⊢
      cases hz : allZ ((bl t).take (t.size - w.toNat)) with
      | false => rw [hz] at h; cases h
      | true =>
        rw [cond_true]
        have hd : allD ((bl t).drop (t.size - w.toNat)) = true := by
          rw [allD, List.all_eq_true]
          intro x hx
          exact List.all_eq_true.1 hc.2.2.1 x (List.mem_of_mem_drop hx)
        refine ⟨hc.2.2.2.1, hc.2.2.2.2, ?_, ?_⟩
        · rw [strOf_size, List.length_drop, bl_length]; omega
        · rw [bl_strOf (dig_byte hd)]; exact hd
  · rw [padD_f hc] at h; cases h
theorem padS_facts {s : Spec} (h : padS s = true) : s.2.1 = 1 ∧ s.2.2.1 = 1 := by
  unfold padS at h
  rw [Bool.and_eq_true, decide_eq_true_eq, decide_eq_true_eq] at h
  exact h
abbrev val0 : Val := (0, bs [], ())
def applyR (r : Rule) (b : Schema) (t : ByteArray) : Val × Int :=
  bif decide (r.1 = 1) then ((r.2.2.1, t, ()), 0) else bif decide (r.1 = 2) then (val0, 0) else bif decide (r.1 = 3) then ((r.2.2.1, r.2.2.2.1, ()), 0)
  else bif decide (r.1 = 4) then (bif !hasS b r.2.2.1 then (val0, 9) else bif !(padD t (getS b r.2.2.1).2.2.2.1).2 then (val0, 5) else ((r.2.2.1, (padD t (getS b r.2.2.1).2.2.2.1).1, ()), 0))
  else bif decide (r.1 = 5) then (bif !(applyP r.2.2.2.2.1 t).2 then (val0, 15) else ((r.2.2.1, (applyP r.2.2.2.2.1 t).1, ()), 0)) else (val0, 1)
theorem ruleApply_eq (r : Rule) (b : Schema) (t : ByteArray) (hp : r.2.2.2.2.1.length ≤ maxLen) (hb : b.2.2.1.length ≤ maxLen) (ht : t.size ≤ maxLen) : rule_Apply r b t = some (applyR r b t) := by
  unfold rule_Apply rule_Apply_s0 applyR
  rw [Find_eq2 b _ hb, Option.bind_some, Pad_eq t _ ht, Option.bind_some, codesApply_eq _ _ hp, Option.bind_some]
  generalize decide (r.1 = 1) = k1
  generalize decide (r.1 = 2) = k2
  generalize decide (r.1 = 3) = k3
  generalize decide (r.1 = 4) = k4
  generalize decide (r.1 = 5) = k5
  generalize hasS b r.2.2.1 = h
  generalize padD t (getS b r.2.2.1).2.2.2.1 = p
  generalize applyP r.2.2.2.2.1 t = q
  obtain ⟨p1, p2⟩ := p
  obtain ⟨q1, q2⟩ := q
  cases k1 <;> cases k2 <;> cases k3 <;> cases k4 <;> cases k5 <;> cases h <;> cases p2 <;> cases q2 <;> rfl
theorem getS_mem {s : Schema} {no : Int} (h : hasS s no = true) : getS s no ∈ s.2.2.1 ∧ (getS s no).1 = no := by
  unfold hasS at h
  unfold getS
  cases hf : findS s.2.2.1 no with
  | none => rw [hf] at h; cases h
  | some x =>
    unfold findS at hf
    exact ⟨List.mem_of_find?_eq_some hf, by simpa using List.find?_some hf⟩
theorem okay_spec {s : Schema} (h : Okay s) {no : Int} (hh : hasS s no = true) : specC (getS s no) = 0 := h.2.2.2.1 _ (getS_mem hh).1
theorem applyP_mem {l : List Pair} {t : ByteArray} (h : (applyP l t).2 = true) : ∃ p ∈ l, p.1 = t ∧ (applyP l t).1 = p.2.1 := by
  unfold applyP at h ⊢
  cases hf : l.find? fun p => decide (p.1 = t) with
  | none => rw [hf] at h; cases h
  | some p => exact ⟨p, List.mem_of_find?_eq_some hf, by simpa using List.find?_some hf, rfl⟩
theorem valsC_mem : ∀ {l : List Pair} {x y : Spec}, valsC l x y = 0 → ∀ p ∈ l, valC x p.1 = 0 ∧ valC y p.2.1 = 0
  | [], x, y, h, p, hp => by cases hp
  | q :: l, x, y, h, p, hp => by
    unfold valsC at h
    by_cases h1 : valC x q.1 = 0
    · rw [decide_eq_true h1, Bool.not_true, cond_false] at h
      by_cases h2 : valC y q.2.1 = 0
      · rw [decide_eq_true h2, Bool.not_true, cond_false] at h
        rcases List.mem_cons.1 hp with rfl | hp
        · exact ⟨h1, h2⟩
        · exact valsC_mem h p hp
      · rw [decide_eq_false h2, Bool.not_false, cond_true] at h; exact absurd h h2
    · rw [decide_eq_false h1, Bool.not_false, cond_true] at h; exact absurd h h1
theorem ruleC_zero {r : Rule} {a b : Schema} (h : ruleC r a b = 0) : (1 ≤ r.1 ∧ r.1 ≤ 5) ∧ endsE r a b = false ∧ textE r = false ∧ kindC r (getS a r.2.1) (getS b r.2.2.1) = 0 := by
  unfold ruleC at h
  by_cases c1 : r.1 < 1
  · rw [decide_eq_true c1] at h; cases h
  by_cases c2 : 5 < r.1
  · rw [decide_eq_true c2, Bool.or_true] at h; cases h
  rw [decide_eq_false c1, decide_eq_false c2, Bool.or_false, cond_false] at h
  cases he : endsE r a b with
  | true => rw [he] at h; cases h
  | false =>
    rw [he, cond_false] at h
    cases ht : textE r with
    | true => rw [ht] at h; cases h
    | false => rw [ht, cond_false] at h; exact ⟨by omega, rfl, rfl, h⟩
theorem ends_zero {r : Rule} {a b : Schema} (h : endsE r a b = false) : (r.1 = 3 → r.2.1 = 0) ∧ (r.1 ≠ 3 → hasS a r.2.1 = true) ∧ (r.1 = 2 → r.2.2.1 = 0) ∧ (r.1 ≠ 2 → hasS b r.2.2.1 = true) := by
  unfold endsE at h
  rw [Bool.or_eq_false_iff] at h
  obtain ⟨h1, h2⟩ := h
  refine ⟨fun e => ?_, fun e => ?_, fun e => ?_, fun e => ?_⟩
  · rw [decide_eq_true e, cond_true] at h1; simpa using h1
  · rw [decide_eq_false e, cond_false] at h1; simpa using h1
  · rw [decide_eq_true e, cond_true] at h2; simpa using h2
  · rw [decide_eq_false e, cond_false] at h2; simpa using h2
theorem apply_valid {r : Rule} {a b : Schema} {t : ByteArray} (ht : t.size ≤ 1099511627776) (hr : RuleOk r) (hc : ruleC r a b = 0) (hb : Okay b) (hv : hasS a r.2.1 = true → valC (getS a r.2.1) t = 0) :
    ((applyR r b t).2 ≠ 0 → ((r.1 = 4 ∧ (applyR r b t).2 = 5) ∨ (r.1 = 5 ∧ (applyR r b t).2 = 15)) ∧ (applyR r b t).1 = val0) ∧
    ((applyR r b t).2 = 0 → (r.1 = 2 → (applyR r b t).1 = val0) ∧ (r.1 ≠ 2 → (applyR r b t).1.1 = r.2.2.1 ∧ hasS b r.2.2.1 = true ∧ valC (getS b r.2.2.1) (applyR r b t).1.2.1 = 0)) := by
  obtain ⟨c1, c2, c3, c4⟩ := ruleC_zero hc
  obtain ⟨e1, e2, e3, e4⟩ := ends_zero c2
  unfold kindC at c4
  have hk : r.1 = 1 ∨ r.1 = 2 ∨ r.1 = 3 ∨ r.1 = 4 ∨ r.1 = 5 := by omega
  unfold applyR
  rcases hk with k | k | k | k | k
  · rw [decide_eq_true k, cond_true] at c4 ⊢
    refine ⟨fun h => absurd rfl h, fun _ => ⟨fun e => by omega, fun _ => ⟨rfl, e4 (by omega), ?_⟩⟩⟩
    cases hw : widS (getS b r.2.2.1) (getS a r.2.1) with
    | false => rw [hw] at c4; cases c4
    | true => exact valC_wider ht hw (hv (e2 (by omega)))
  · rw [decide_eq_false (by omega : ¬ r.1 = 1), decide_eq_true k, cond_false, cond_true]
    exact ⟨fun h => absurd rfl h, fun _ => ⟨fun _ => rfl, fun e => absurd k e⟩⟩
  · rw [decide_eq_false (by omega : ¬ r.1 = 1), decide_eq_true k, cond_false, cond_true] at c4
    rw [decide_eq_false (by omega : ¬ r.1 = 1), decide_eq_false (by omega : ¬ r.1 = 2), decide_eq_true k, cond_false, cond_false, cond_true]
    exact ⟨fun h => absurd rfl h, fun _ => ⟨fun e => by omega, fun _ => ⟨rfl, e4 (by omega), c4⟩⟩⟩
  · rw [decide_eq_false (by omega : ¬ r.1 = 1), decide_eq_false (by omega : ¬ r.1 = 3), decide_eq_true k, cond_false, cond_false, cond_true] at c4
    rw [decide_eq_false (by omega : ¬ r.1 = 1), decide_eq_false (by omega : ¬ r.1 = 2), decide_eq_false (by omega : ¬ r.1 = 3), decide_eq_true k, cond_false, cond_false, cond_false, cond_true, e4 (by omega), Bool.not_true, cond_false]
    have hy := okay_spec hb (e4 (by omega))
    have hpd : padS (getS b r.2.2.1) = true := by
      cases hp : (padS (getS a r.2.1) && padS (getS b r.2.2.1)) with
      | false => rw [hp] at c4; cases c4
      | true => exact (Bool.and_eq_true_iff.1 hp).2
    obtain ⟨y1, y2⟩ := padS_facts hpd
    obtain ⟨_, _, _, f4, f5, _⟩ := specC_facts hy
    cases hp : (padD t (getS b r.2.2.1).2.2.2.1).2 with
    | false => exact ⟨fun _ => ⟨.inl ⟨k, rfl⟩, rfl⟩, fun e => by cases e⟩
    | true =>
      obtain ⟨p1, p2, p3, p4⟩ := padD_ok hp
      rw [Bool.not_true, cond_false]
      refine ⟨fun h => absurd rfl h, fun _ => ⟨fun e => by omega, fun _ => ⟨rfl, rfl, ?_⟩⟩⟩
      have := f5 y2
      refine (valC_iff _ _ (by show (padD t (getS b r.2.2.1).2.2.2.1).1.size ≤ 1099511627776; omega)).2 ⟨hy, ?_, ?_, ?_, fun e => by omega⟩
      · show _ ≤ ((padD t (getS b r.2.2.1).2.2.2.1).1.size : Int); omega
      · show ((padD t (getS b r.2.2.1).2.2.2.1).1.size : Int) ≤ _; omega
      · rw [y1, all_one]; exact p4
  · rw [decide_eq_false (by omega : ¬ r.1 = 1), decide_eq_false (by omega : ¬ r.1 = 3), decide_eq_false (by omega : ¬ r.1 = 4), decide_eq_true k, cond_false, cond_false, cond_false, cond_true] at c4
    rw [decide_eq_false (by omega : ¬ r.1 = 1), decide_eq_false (by omega : ¬ r.1 = 2), decide_eq_false (by omega : ¬ r.1 = 3), decide_eq_false (by omega : ¬ r.1 = 4), decide_eq_true k, cond_false, cond_false, cond_false, cond_false, cond_true]
    unfold tableR at c4
    cases hp : (applyP r.2.2.2.2.1 t).2 with
    | false => exact ⟨fun _ => ⟨.inr ⟨k, rfl⟩, rfl⟩, fun e => by cases e⟩
    | true =>
      rw [Bool.not_true, cond_false]
      refine ⟨fun h => absurd rfl h, fun _ => ⟨fun e => by omega, fun _ => ⟨rfl, e4 (by omega), ?_⟩⟩⟩
      obtain ⟨p, hm, _, hq⟩ := applyP_mem hp
      show valC _ (applyP r.2.2.2.2.1 t).1 = 0
      rw [hq]
      cases hz : (!decide ((tableC r.2.2.2.2.1).1 = 0) || decide ((r.2.2.2.2.1.length : Int) = 0)) with
      | true => rw [hz] at c4; cases c4
      | false => rw [hz, cond_false] at c4; exact (valsC_mem c4 p hm).2
end Groat
set_option linter.unusedVariables false
set_option linter.unusedSimpArgs false
namespace Groat
open Go Go.Ref
theorem insV_len (l : List Val) (no : Int) (t : ByteArray) : (insV l no t).length = l.length + 1 := by
  unfold insV
  rcases idxGt_cases no l 0 (Int.le_refl _) with ⟨h1, _⟩ | h1
  · rw [h1, decide_eq_true (by omega : (-1 : Int) < 0), cond_true, List.length_append]; rfl
  · rw [decide_eq_false (by omega : ¬ idxGt no l 0 < 0), cond_false, List.length_append, List.length_take, List.length_cons, List.length_drop]
    omega
theorem withM_len (m : Msg) (no : Int) (t : ByteArray) : (withM m no t).2.1.length ≤ m.2.1.length + 1 := by
  show (insV (dropV m.2.1 no) no t).length ≤ _
  rw [insV_len]
  have := dropV_len m.2.1 no
  omega
theorem Head_eq (m : Map) (t : ByteArray) (h : m.1.length ≤ maxLen) : xlate_head m t = some (applyP m.1 t) := by
  unfold xlate_head xlate_head_s0
  dsimp only
  have := loopI pair0 m.1 h (fun i (x : Pair) (s : Unit) K => bif decide (x.1 = t) then some (Sum.inl (x.2.1, true)) else K s) (fun _ => some (Sum.inr ()))
    (fun k i s => xlate_head_l0 k t m.1 (m.1.length : Int) i) (fun k i s => rfl) ()
  rw [this, codesApply_run]
  unfold applyP
  cases m.1.find? fun p => decide (p.1 = t) <;> rfl
def findR (m : Map) (no : Int) : Option Rule := m.2.1.find? fun r => decide (r.2.1 = no)
def findX (o : Option Rule) : Option (Sum (Bool × Rule) Rule) := some (match o with
  | some r => .inl (true, r)
  | none => .inr rule0)
theorem find_run (no : Int) : ∀ (l : List Rule) (i : Int), runI (fun i (x : Rule) (s : Unit) K => (bif (decide (x.2.1 = no)) then some (Sum.inl (true, x)) else K s)) (fun _ => some (Sum.inr rule0)) l i () = findX (l.find? fun r => decide (r.2.1 = no))
  | [], i => rfl
  | x :: r, i => by
    rw [runI, List.find?_cons]
    cases hx : decide (x.2.1 = no) with
    | true => rfl
    | false => rw [cond_false]; exact find_run no r (i + 1)
theorem FindR_eq (m : Map) (no : Int) (h : m.2.1.length ≤ maxLen) : xlate_find m no = some (match findR m no with
  | some r => (r, true)
  | none => (rule0, false)) := by
  unfold xlate_find xlate_find_s0 findR
  dsimp only
  have := loopI rule0 m.2.1 h (fun i (x : Rule) (s : Unit) K => (bif (decide (x.2.1 = no)) then some (Sum.inl (true, x)) else K s)) (fun _ => some (Sum.inr rule0))
    (fun k i s => xlate_find_l0 k no m.2.1 (m.2.1.length : Int) i rule0) (fun k i s => rfl) ()
  rw [this, find_run]
  unfold findX
  cases m.2.1.find? fun r => decide (r.2.1 = no) <;> rfl
def constsM : List Rule → Msg → Msg
  | [], out => out
  | r :: l, out => constsM l (bif decide (r.1 = 3) then withM out r.2.2.1 r.2.2.2.1 else out)
theorem constsM_len : ∀ (l : List Rule) (out : Msg), (constsM l out).2.1.length ≤ out.2.1.length + l.length
  | [], out => Nat.le_refl _
  | r :: l, out => by
    rw [constsM, List.length_cons]
    cases decide (r.1 = 3) with
    | true => rw [cond_true]; have := constsM_len l (withM out r.2.2.1 r.2.2.2.1); have := withM_len out r.2.2.1 r.2.2.2.1; omega
    | false => rw [cond_false]; have := constsM_len l out; omega
theorem consts_run {ρ : Type} (fin : Msg → Option ρ) : ∀ (l : List Rule) (i : Int) (out : Msg), out.2.1.length + l.length ≤ 1000000 →
    runI (fun i (x : Rule) (s : Msg) K => (bif (decide (x.1 = (3 : Int))) then ((msg_With s x.2.2.1 x.2.2.2.1).bind fun r4 => K r4) else K s)) fin l i out = fin (constsM l out)
  | [], i, out, _ => rfl
  | r :: l, i, out, h => by
    simp only [List.length_cons] at h
    rw [runI, constsM]
    cases decide (r.1 = 3) with
    | true =>
      rw [cond_true, cond_true, MWith_eq out _ _ (by omega), some_bind]
      have := withM_len out r.2.2.1 r.2.2.2.1
      exact consts_run fin l (i + 1) _ (by omega)
    | false =>
      rw [cond_false, cond_false]
      exact consts_run fin l (i + 1) out (by omega)
def fieldsT (m : Map) (b : Schema) : List Val → Msg → Sum (Fault × Msg) Msg
  | [], out => .inr out
  | v :: r, out => match findR m v.1 with
    | none => .inl ((9, v.1, ()), out)
    | some q => bif !decide ((applyR q b v.2.1).2 = 0) then .inl (((applyR q b v.2.1).2, v.1, ()), out) else fieldsT m b r (bif !decide ((applyR q b v.2.1).1.1 = 0) then withM out (applyR q b v.2.1).1.1 (applyR q b v.2.1).1.2.1 else out)
abbrev msg0 : Msg := (bs [], [], ())
def fieldsTX (o : Sum (Fault × Msg) Msg) : Option (Sum (Msg × Fault × Msg) (Msg × Fault × Msg)) := some (match o with
  | .inl (f, out) => .inl (msg0, f, out)
  | .inr out => .inr (msg0, fault0, out))
theorem findR_mem {m : Map} {no : Int} {r : Rule} (h : findR m no = some r) : r ∈ m.2.1 ∧ r.2.1 = no := ⟨List.mem_of_find?_eq_some h, by simpa using List.find?_some h⟩
theorem fieldsT_run (m : Map) (b : Schema) (hm : MapOk m) (hb : b.2.2.1.length ≤ maxLen) : ∀ (l : List Val) (i : Int) (out : Msg), out.2.1.length + l.length ≤ 1000000 → (∀ v ∈ l, v.2.1.size ≤ 1099511627776) →
    runI (fun i (x : Val) (s : Msg) K => ((xlate_find m x.1).bind fun r5 => (bif (!r5.2) then some (Sum.inl (msg0, ((9 : Int), x.1, ()), s)) else ((rule_Apply r5.1 b x.2.1).bind fun r6 => (bif (!(decide (r6.2 = (0 : Int)))) then some (Sum.inl (msg0, (r6.2, x.1, ()), s)) else (bif (!(decide (r6.1.1 = (0 : Int)))) then ((msg_With s r6.1.1 r6.1.2.1).bind fun r7 => K r7) else K s)))))) (fun s => some (Sum.inr (msg0, fault0, s))) l i out = fieldsTX (fieldsT m b l out)
  | [], i, out, _, _ => rfl
  | v :: r, i, out, h, ht => by
    simp only [List.length_cons] at h
    have hl := hm.len
    have hv := ht v List.mem_cons_self
    rw [runI, FindR_eq m v.1 (by rw [maxLen_eq]; omega), some_bind, fieldsT]
    cases hf : findR m v.1 with
    | none => rfl
    | some q =>
      dsimp only
      obtain ⟨q1, _⟩ := findR_mem hf
      have qp := (hm.rules q q1).pairs.len
      rw [Bool.not_true, cond_false, ruleApply_eq q b v.2.1 (by rw [maxLen_eq]; omega) hb (by rw [maxLen_eq]; omega), some_bind]
      generalize applyR q b v.2.1 = y
      cases decide (y.2 = 0) with
      | false => rfl
      | true =>
        rw [Bool.not_true, cond_false, cond_false]
        cases decide (y.1.1 = 0) with
        | true =>
          rw [Bool.not_true, cond_false, cond_false]
          exact fieldsT_run m b hm hb r (i + 1) out (by omega) (fun w hw => ht w (List.mem_cons_of_mem _ hw))
        | false =>
          rw [Bool.not_false, cond_true, cond_true, MWith_eq out _ _ (by omega), some_bind]
          have := withM_len out y.1.1 y.1.2.1
          exact fieldsT_run m b hm hb r (i + 1) _ (by omega) (fun w hw => ht w (List.mem_cons_of_mem _ hw))
def transC (m : Map) (a b : Schema) (x : Msg) : Msg × Fault :=
  bif !decide ((mapC m a b).1 = 0) then (msg0, (1, -1, ())) else bif !decide ((msgC a x).1 = 0) then (msg0, msgC a x) else bif !(applyP m.1 x.1).2 then (msg0, (7, 0, ()))
  else match fieldsT m b x.2.1 (constsM m.2.1 ((applyP m.1 x.1).1, [], ())) with
    | .inl (f, _) => (msg0, f)
    | .inr out => (out, fault0)
theorem Translate_eq (m : Map) (a b : Schema) (x : Msg) (hm : MapOk m) (hm2 : m.2.1.length ≤ 900000) (hx : MsgOk x) (hx2 : x.2.1.length ≤ 90000) (ha : a.2.2.1.length ≤ maxLen) (hb : b.2.2.1.length ≤ maxLen) : xlate_Translate m a b x = some (transC m a b x) := by
  have hl := hm.mtis.len
  unfold xlate_Translate xlate_Translate_s0 transC
  rw [xlateCheck_eq m a b hm ha hb, some_bind]
  cases decide ((mapC m a b).1 = 0) with
  | false => rfl
  | true =>
    rw [Bool.not_true, cond_false, cond_false, msgCheck_eq a x ha hx, some_bind]
    cases decide ((msgC a x).1 = 0) with
    | false => rfl
    | true =>
      rw [Bool.not_true, cond_false, cond_false, Head_eq m x.1 (by rw [maxLen_eq]; omega), some_bind]
      cases (applyP m.1 x.1).2 with
      | false => rfl
      | true =>
        rw [Bool.not_true, cond_false, cond_false]
        dsimp only
        have h1 := loopI rule0 m.2.1 (by rw [maxLen_eq]; omega) (fun i (x : Rule) (s : Msg) K => (bif (decide (x.1 = (3 : Int))) then ((msg_With s x.2.2.1 x.2.2.2.1).bind fun r4 => K r4) else K s)) (fun s => some (m, b, x, msg0, fault0, s))
          (fun k i s => xlate_Translate_l0 k m.2.1 (m.2.1.length : Int) i m b x msg0 fault0 s) (fun k i s => rfl) ((applyP m.1 x.1).1, [], ())
        rw [h1, consts_run _ _ _ _ (by simp; omega), some_bind]
        unfold xlate_Translate_s2
        dsimp only
        have hc := constsM_len m.2.1 ((applyP m.1 x.1).1, [], ())
        have hc : (constsM m.2.1 ((applyP m.1 x.1).1, [], ())).2.1.length ≤ m.2.1.length := by simpa using hc
        have h2 := loopI vnil x.2.1 (by rw [maxLen_eq]; omega) (fun i (x : Val) (s : Msg) K => ((xlate_find m x.1).bind fun r5 => (bif (!r5.2) then some (Sum.inl (msg0, ((9 : Int), x.1, ()), s)) else ((rule_Apply r5.1 b x.2.1).bind fun r6 => (bif (!(decide (r6.2 = (0 : Int)))) then some (Sum.inl (msg0, (r6.2, x.1, ()), s)) else (bif (!(decide (r6.1.1 = (0 : Int)))) then ((msg_With s r6.1.1 r6.1.2.1).bind fun r7 => K r7) else K s)))))) (fun s => some (Sum.inr (msg0, fault0, s)))
          (fun k i s => xlate_Translate_l1 k x.2.1 (x.2.1.length : Int) i m b msg0 fault0 s) (fun k i s => rfl) (constsM m.2.1 ((applyP m.1 x.1).1, [], ()))
        rw [h2, fieldsT_run m b hm hb _ _ _ (by omega) hx.txt]
        unfold fieldsTX
        cases fieldsT m b x.2.1 (constsM m.2.1 ((applyP m.1 x.1).1, [], ())) with
        | inl p => obtain ⟨f, o⟩ := p; rfl
        | inr o => rfl
end Groat
set_option linter.unusedVariables false
set_option linter.unusedSimpArgs false
namespace Groat
open Go Go.Ref
abbrev Ris (l : List Val) : Prop := l.Pairwise fun x y => x.1 < y.1
def insR (no : Int) (t : ByteArray) : List Val → List Val
  | [] => [(no, t, ())]
  | x :: r => if no < x.1 then (no, t, ()) :: x :: r else x :: insR no t r
theorem idxGt_shift (no : Int) : ∀ (l : List Val) (i d : Int), 0 ≤ i → 0 ≤ d → idxGt no l (i + d) = if idxGt no l i < 0 then -1 else idxGt no l i + d
  | [], i, d, _, _ => by unfold idxGt; rw [if_pos (by omega)]
  | x :: r, i, d, hi, hd => by
    unfold idxGt
    by_cases hx : no < x.1
    · rw [if_pos hx, if_pos hx, if_neg (by omega)]
    · rw [if_neg hx, if_neg hx, show i + d + 1 = (i + 1) + d by omega]
      exact idxGt_shift no r (i + 1) d (by omega) hd
theorem insV_eq (no : Int) (t : ByteArray) : ∀ l : List Val, insV l no t = insR no t l
  | [] => rfl
  | x :: r => by
    have ih := insV_eq no t r
    unfold insV at ih ⊢
    unfold insR
    by_cases hx : no < x.1
    · have : idxGt no (x :: r) 0 = 0 := by unfold idxGt; rw [if_pos hx]
      rw [this, if_pos hx]; rfl
    · rw [if_neg hx, ← ih]
      have h0 : idxGt no (x :: r) 0 = idxGt no r (0 + 1) := by
        show (if no < x.1 then (0 : Int) else idxGt no r (0 + 1)) = _
        rw [if_neg hx]
      rw [h0, idxGt_shift no r 0 1 (by omega) (by omega)]
      rcases idxGt_cases no r 0 (Int.le_refl _) with ⟨h1, _⟩ | h1
      · rw [h1, if_pos (by omega)]; rfl
      · rw [if_neg (by omega), decide_eq_false (by omega : ¬ idxGt no r 0 + 1 < 0), decide_eq_false (by omega : ¬ idxGt no r 0 < 0), cond_false, cond_false]
        have : (idxGt no r 0 + 1).toNat = (idxGt no r 0).toNat + 1 := by omega
        rw [this]; rfl
theorem insR_mem (no : Int) (t : ByteArray) (v : Val) : ∀ l : List Val, v ∈ insR no t l ↔ v = (no, t, ()) ∨ v ∈ l
  | [] => by simp [insR]
  | x :: r => by
    unfold insR
    split
    · simp
    · rw [List.mem_cons, insR_mem no t v r, List.mem_cons]
      constructor
      · rintro (h | h | h)
        · exact .inr (.inl h)
        · exact .inl h
        · exact .inr (.inr h)
      · rintro (h | h | h)
        · exact .inr (.inl h)
        · exact .inl h
        · exact .inr (.inr h)
theorem insR_ris (no : Int) (t : ByteArray) : ∀ {l : List Val}, Ris l → (∀ x ∈ l, x.1 ≠ no) → Ris (insR no t l)
  | [], _, _ => by simp [insR, Ris]
  | x :: r, h, hn => by
    have hx := hn x List.mem_cons_self
    rw [Ris, List.pairwise_cons] at h
    unfold insR
    split
    · rename_i hlt
      refine List.pairwise_cons.2 ⟨fun y hy => ?_, List.pairwise_cons.2 h⟩
      rcases List.mem_cons.1 hy with rfl | hy
      · exact hlt
      · have := h.1 y hy
        show no < y.1
        omega
    · rename_i hlt
      refine List.pairwise_cons.2 ⟨fun y hy => ?_, insR_ris no t h.2 (fun z hz => hn z (List.mem_cons_of_mem _ hz))⟩
      rcases (insR_mem no t y r).1 hy with rfl | hy
      · show x.1 < no
        omega
      · exact h.1 y hy
theorem dropV_mem {l : List Val} {no : Int} {v : Val} : v ∈ dropV l no ↔ v ∈ l ∧ v.1 ≠ no := by
  unfold dropV
  rw [List.mem_filter]
  simp
theorem withM_mem (m : Msg) (no : Int) (t : ByteArray) (v : Val) : v ∈ (withM m no t).2.1 ↔ v = (no, t, ()) ∨ (v ∈ m.2.1 ∧ v.1 ≠ no) := by
  show v ∈ insV (dropV m.2.1 no) no t ↔ _
  rw [insV_eq, insR_mem, dropV_mem]
theorem withM_ris {m : Msg} (h : Ris m.2.1) (no : Int) (t : ByteArray) : Ris (withM m no t).2.1 := by
  show Ris (insV (dropV m.2.1 no) no t)
  rw [insV_eq]
  exact insR_ris no t (h.filter _) (fun x hx => (dropV_mem.1 hx).2)
theorem ris_ext : ∀ {l r : List Val}, Ris l → Ris r → (∀ v, v ∈ l ↔ v ∈ r) → l = r
  | [], [], _, _, _ => rfl
  | [], y :: r, _, _, h => by have := (h y).2 List.mem_cons_self; cases this
  | x :: l, [], _, _, h => by have := (h x).1 List.mem_cons_self; cases this
  | x :: l, y :: r, hl, hr, h => by
    have hl' := List.pairwise_cons.1 hl
    have hr' := List.pairwise_cons.1 hr
    have e : x = y := by
      rcases List.mem_cons.1 ((h x).1 List.mem_cons_self) with e | e
      · exact e
      · rcases List.mem_cons.1 ((h y).2 List.mem_cons_self) with e2 | e2
        · exact e2.symm
        · have a1 := hr'.1 x e
          have a2 := hl'.1 y e2
          omega
    subst e
    congr 1
    refine ris_ext hl'.2 hr'.2 fun v => ⟨fun hv => ?_, fun hv => ?_⟩
    · rcases List.mem_cons.1 ((h v).1 (List.mem_cons_of_mem _ hv)) with e | e
      · subst e; have := hl'.1 _ hv; omega
      · exact e
    · rcases List.mem_cons.1 ((h v).2 (List.mem_cons_of_mem _ hv)) with e | e
      · subst e; have := hr'.1 _ hv; omega
      · exact e
def putAll : List Val → Msg → Msg
  | [], out => out
  | v :: l, out => putAll l (withM out v.1 v.2.1)
def Apart (l : List Val) : Prop := l.Pairwise fun x y => x.1 ≠ y.1
theorem putAll_head : ∀ (l : List Val) (out : Msg), (putAll l out).1 = out.1
  | [], out => rfl
  | v :: l, out => putAll_head l _
theorem putAll_ris : ∀ (l : List Val) {out : Msg}, Ris out.2.1 → Ris (putAll l out).2.1
  | [], out, h => h
  | v :: l, out, h => putAll_ris l (withM_ris h v.1 v.2.1)
theorem putAll_mem : ∀ (l : List Val) (out : Msg), Apart l → (∀ v ∈ l, ∀ w ∈ out.2.1, v.1 ≠ w.1) → ∀ v, v ∈ (putAll l out).2.1 ↔ v ∈ out.2.1 ∨ v ∈ l
  | [], out, _, _, v => by simp [putAll]
  | x :: l, out, ha, hd, v => by
    have ha' := List.pairwise_cons.1 ha
    have hx : (x.1, x.2.1, ()) = x := rfl
    rw [putAll, putAll_mem l _ ha'.2 (fun y hy w hw => ?_) v, withM_mem, hx, List.mem_cons]
    · constructor
      · rintro ((h | h) | h)
        · exact .inr (.inl h)
        · exact .inl h.1
        · exact .inr (.inr h)
      · rintro (h | h | h)
        · exact .inl (.inr ⟨h, fun e => hd x List.mem_cons_self v h e.symm⟩)
        · exact .inl (.inl h)
        · exact .inr h
    · rcases (withM_mem out x.1 x.2.1 w).1 hw with e | e
      · rw [e]; exact fun h => ha'.1 y hy h.symm
      · exact hd y (List.mem_cons_of_mem _ hy) w e.1
theorem putAll_append : ∀ (l r : List Val) (out : Msg), putAll (l ++ r) out = putAll r (putAll l out)
  | [], r, out => rfl
  | v :: l, r, out => putAll_append l r _
def constL (l : List Rule) : List Val := (l.filter fun r => decide (r.1 = 3)).map fun r => (r.2.2.1, r.2.2.2.1, ())
theorem constsM_put : ∀ (l : List Rule) (out : Msg), constsM l out = putAll (constL l) out
  | [], out => rfl
  | r :: l, out => by
    rw [constsM]
    unfold constL
    rw [List.filter_cons]
    cases decide (r.1 = 3) with
    | true => exact constsM_put l _
    | false => exact constsM_put l _
def fieldsV (m : Map) (b : Schema) : List Val → Sum Fault (List Val)
  | [] => .inr []
  | v :: r => match findR m v.1 with
    | none => .inl (9, v.1, ())
    | some q => bif !decide ((applyR q b v.2.1).2 = 0) then .inl ((applyR q b v.2.1).2, v.1, ()) else match fieldsV m b r with
      | .inl f => .inl f
      | .inr ys => .inr ((applyR q b v.2.1).1 :: ys)
def some0 (l : List Val) : List Val := l.filter fun v => !decide (v.1 = 0)
theorem fieldsT_put (m : Map) (b : Schema) : ∀ (l : List Val) (out : Msg), (∃ f o, fieldsT m b l out = .inl (f, o) ∧ fieldsV m b l = .inl f) ∨ (∃ ys, fieldsT m b l out = .inr (putAll (some0 ys) out) ∧ fieldsV m b l = .inr ys)
  | [], out => .inr ⟨[], rfl, rfl⟩
  | v :: r, out => by
    rw [fieldsT, fieldsV]
    cases findR m v.1 with
    | none => exact .inl ⟨_, _, rfl, rfl⟩
    | some q =>
      dsimp only
      generalize applyR q b v.2.1 = y
      cases decide (y.2 = 0) with
      | false => exact .inl ⟨_, _, rfl, rfl⟩
      | true =>
        rw [Bool.not_true, cond_false, cond_false]
        cases hz : decide (y.1.1 = 0) with
        | true =>
          rw [Bool.not_true, cond_false]
          rcases fieldsT_put m b r out with ⟨f, o, h1, h2⟩ | ⟨ys, h1, h2⟩
          · exact .inl ⟨f, o, h1, by rw [h2]⟩
          · refine .inr ⟨y.1 :: ys, ?_, by rw [h2]⟩
            rw [h1]
            have : some0 (y.1 :: ys) = some0 ys := by unfold some0; rw [List.filter_cons, hz]; rfl
            rw [this]
        | false =>
          rw [Bool.not_false, cond_true]
          rcases fieldsT_put m b r (withM out y.1.1 y.1.2.1) with ⟨f, o, h1, h2⟩ | ⟨ys, h1, h2⟩
          · exact .inl ⟨f, o, h1, by rw [h2]⟩
          · refine .inr ⟨y.1 :: ys, ?_, by rw [h2]⟩
            rw [h1]
            have : some0 (y.1 :: ys) = y.1 :: some0 ys := by unfold some0; rw [List.filter_cons, hz]; rfl
            rw [this]
            rfl
theorem fieldsV_mem {m : Map} {b : Schema} : ∀ {l ys : List Val}, fieldsV m b l = .inr ys → ∀ y ∈ ys, ∃ v ∈ l, ∃ q, findR m v.1 = some q ∧ (applyR q b v.2.1).2 = 0 ∧ y = (applyR q b v.2.1).1
  | [], ys, h, y, hy => by cases h; cases hy
  | v :: r, ys, h, y, hy => by
    rw [fieldsV] at h
    cases hf : findR m v.1 with
    | none => rw [hf] at h; cases h
    | some q =>
      rw [hf] at h
      dsimp only at h
      cases hz : decide ((applyR q b v.2.1).2 = 0) with
      | false => rw [hz] at h; cases h
      | true =>
        rw [hz, Bool.not_true, cond_false] at h
        cases hr : fieldsV m b r with
        | inl f => rw [hr] at h; cases h
        | inr zs =>
          rw [hr] at h
          cases h
          rcases List.mem_cons.1 hy with rfl | hy
          · exact ⟨v, List.mem_cons_self, q, hf, of_decide_eq_true hz, rfl⟩
          · obtain ⟨w, hw, q', g⟩ := fieldsV_mem hr y hy
            exact ⟨w, List.mem_cons_of_mem _ hw, q', g⟩
theorem twice_symm (x y : Rule) : twiceR x y = twiceR y x := by
  unfold twiceR
  have e1 : (!decide (x.2.1 = 0) && decide (x.2.1 = y.2.1)) = (!decide (y.2.1 = 0) && decide (y.2.1 = x.2.1)) := by
    by_cases h : x.2.1 = y.2.1
    · rw [h]
    · rw [decide_eq_false h, decide_eq_false (show ¬ y.2.1 = x.2.1 from fun e => h e.symm), Bool.and_false, Bool.and_false]
  have e2 : (!decide (x.2.2.1 = 0) && decide (x.2.2.1 = y.2.2.1)) = (!decide (y.2.2.1 = 0) && decide (y.2.2.1 = x.2.2.1)) := by
    by_cases h : x.2.2.1 = y.2.2.1
    · rw [h]
    · rw [decide_eq_false h, decide_eq_false (show ¬ y.2.2.1 = x.2.2.1 from fun e => h e.symm), Bool.and_false, Bool.and_false]
  rw [e1, e2]
theorem noTwice_pair : ∀ {l prev : List Rule}, NoTwice prev l → l.Pairwise (fun x y => twiceR x y = false) ∧ ∀ p ∈ prev, ∀ x ∈ l, twiceR p x = false
  | [], prev, h => ⟨List.Pairwise.nil, fun _ _ x hx => by cases hx⟩
  | r :: l, prev, h => by
    obtain ⟨h1, h2⟩ := h
    obtain ⟨i1, i2⟩ := noTwice_pair h2
    have hp : ∀ p ∈ prev, twiceR p r = false := fun p hp => by
      have := List.any_eq_false.1 h1 p hp
      simpa using this
    refine ⟨List.pairwise_cons.2 ⟨fun y hy => i2 r (by simp) y hy, i1⟩, fun p hp' x hx => ?_⟩
    rcases List.mem_cons.1 hx with rfl | hx
    · exact hp p hp'
    · exact i2 p (by simp [hp']) x hx
theorem tos_apart {x y : Rule} (h : twiceR x y = false) (hx : x.2.2.1 ≠ 0) : x.2.2.1 ≠ y.2.2.1 := by
  intro e
  unfold twiceR at h
  rw [Bool.or_eq_false_iff] at h
  have := h.2
  rw [decide_eq_false hx, decide_eq_true e] at this
  cases this
theorem pair_mem {l : List Rule} (h : l.Pairwise fun x y => twiceR x y = false) : ∀ x ∈ l, ∀ y ∈ l, x ≠ y → twiceR x y = false := by
  induction l with
  | nil => intro x hx; cases hx
  | cons r l ih =>
    obtain ⟨h1, h2⟩ := List.pairwise_cons.1 h
    intro x hx y hy hne
    rcases List.mem_cons.1 hx with e1 | hx1
    · rcases List.mem_cons.1 hy with e2 | hy1
      · exact absurd (e1.trans e2.symm) hne
      · rw [e1]; exact h1 y hy1
    · rcases List.mem_cons.1 hy with e2 | hy1
      · rw [twice_symm, e2]; exact h1 x hx1
      · exact ih h2 x hx1 y hy1 hne
end Groat
set_option linter.unusedVariables false
set_option linter.unusedSimpArgs false
namespace Groat
open Go Go.Ref
theorem fieldsC_none {s : Schema} : ∀ {l : List Val} {last : Int}, fieldsC s l last = none ↔ (∀ v ∈ l, hasS s v.1 = true ∧ valC (getS s v.1) v.2.1 = 0) ∧ Ris l ∧ ∀ v ∈ l, last < v.1
  | [], last => by simp [fieldsC, Ris]
  | x :: r, last => by
    rw [fieldsC]
    by_cases h1 : x.1 ≤ last
    · rw [decide_eq_true h1, cond_true]
      refine ⟨fun h => (by cases h), fun h => ?_⟩
      have := h.2.2 x List.mem_cons_self
      omega
    rw [decide_eq_false h1, cond_false]
    cases h2 : hasS s x.1 with
    | false =>
      refine ⟨fun h => (by cases h), fun h => ?_⟩
      have := (h.1 x List.mem_cons_self).1
      rw [h2] at this; cases this
    | true =>
      rw [Bool.not_true, cond_false]
      by_cases h3 : valC (getS s x.1) x.2.1 = 0
      · rw [decide_eq_true h3, Bool.not_true, cond_false, fieldsC_none]
        constructor
        · rintro ⟨g1, g2, g3⟩
          refine ⟨fun v hv => ?_, List.pairwise_cons.2 ⟨g3, g2⟩, fun v hv => ?_⟩
          · rcases List.mem_cons.1 hv with rfl | hv
            · exact ⟨h2, h3⟩
            · exact g1 v hv
          · rcases List.mem_cons.1 hv with rfl | hv
            · omega
            · have := g3 v hv; omega
        · rintro ⟨g1, g2, g3⟩
          have g2 := List.pairwise_cons.1 g2
          exact ⟨fun v hv => g1 v (List.mem_cons_of_mem _ hv), g2.2, g2.1⟩
      · rw [decide_eq_false h3, Bool.not_false, cond_true]
        refine ⟨fun h => (by cases h), fun h => ?_⟩
        exact absurd (h.1 x List.mem_cons_self).2 h3
theorem fieldsC_some {s : Schema} : ∀ {l : List Val} {last : Int} {f : Fault}, fieldsC s l last = some f → f.1 ≠ 0
  | [], last, f, h => by cases h
  | x :: r, last, f, h => by
    rw [fieldsC] at h
    cases h1 : decide (x.1 ≤ last) with
    | true => rw [h1] at h; cases h; exact (by decide : (11 : Int) ≠ 0)
    | false =>
      rw [h1, cond_false] at h
      cases h2 : hasS s x.1 with
      | false => rw [h2] at h; cases h; exact (by decide : (9 : Int) ≠ 0)
      | true =>
        rw [h2, Bool.not_true, cond_false] at h
        by_cases h3 : valC (getS s x.1) x.2.1 = 0
        · rw [decide_eq_true h3, Bool.not_true, cond_false] at h
          exact fieldsC_some h
        · rw [decide_eq_false h3, Bool.not_false, cond_true] at h
          cases h
          exact h3
structure Msg0 (s : Schema) (m : Msg) : Prop where
  sch : (schemaC s).1 = 0
  right : rightM m.1 = true
  ver : verM m.1 = s.2.1
  flds : fieldsC s m.2.1 0 = none
theorem msg0_iff {s : Schema} {m : Msg} : (msgC s m).1 = 0 ↔ Msg0 s m := by
  unfold msgC
  by_cases h1 : (schemaC s).1 = 0
  · rw [decide_eq_true h1, Bool.not_true, cond_false]
    cases h2 : rightM m.1 with
    | false => exact ⟨fun h => absurd h (show ¬ (7 : Int) = 0 by decide), fun h => by have := h.right; rw [h2] at this; cases this⟩
    | true =>
      rw [Bool.not_true, cond_false]
      by_cases h3 : verM m.1 = s.2.1
      · rw [decide_eq_true h3, Bool.not_true, cond_false]
        cases h4 : fieldsC s m.2.1 0 with
        | none => exact ⟨fun _ => ⟨h1, h2, h3, h4⟩, fun _ => rfl⟩
        | some f => exact ⟨fun h => absurd h (fieldsC_some h4), fun h => by have := h.flds; rw [h4] at this; cases this⟩
      · rw [decide_eq_false h3]
        exact ⟨fun h => absurd h (show ¬ (7 : Int) = 0 by decide), fun h => absurd h.ver h3⟩
  · rw [decide_eq_false h1]
    exact ⟨fun h => absurd h (show ¬ (1 : Int) = 0 by decide), fun h => absurd h.sch h1⟩
theorem Msg0.eq {s : Schema} {m : Msg} (h : Msg0 s m) : msgC s m = fault0 := by
  unfold msgC
  rw [decide_eq_true h.sch, h.right, decide_eq_true h.ver, h.flds]; rfl
theorem has_range2 {s : Schema} (h : Okay s) {no : Int} (hh : hasS s no = true) : 2 ≤ no ∧ no ≤ 128 := by
  have := (specC_facts (okay_spec h hh)).1
  rw [(getS_mem hh).2] at this
  exact this
theorem applyR_to {q : Rule} {b : Schema} {t : ByteArray} (h : (applyR q b t).2 = 0) (hz : (applyR q b t).1.1 ≠ 0) : q.1 ≠ 2 ∧ (applyR q b t).1.1 = q.2.2.1 := by
  unfold applyR at h hz ⊢
  by_cases k1 : q.1 = 1
  · rw [decide_eq_true k1, cond_true]; exact ⟨by omega, rfl⟩
  rw [decide_eq_false k1, cond_false] at h hz ⊢
  by_cases k2 : q.1 = 2
  · rw [decide_eq_true k2, cond_true] at hz; exact absurd rfl hz
  rw [decide_eq_false k2, cond_false] at h hz ⊢
  refine ⟨k2, ?_⟩
  by_cases k3 : q.1 = 3
  · rw [decide_eq_true k3, cond_true]
  rw [decide_eq_false k3, cond_false] at h hz ⊢
  by_cases k4 : q.1 = 4
  · rw [decide_eq_true k4, cond_true] at h hz ⊢
    cases hs : hasS b q.2.2.1 with
    | false => rw [hs] at h; cases h
    | true =>
      rw [hs] at h
      rw [Bool.not_true, cond_false] at h ⊢
      cases hp : (padD t (getS b q.2.2.1).2.2.2.1).2 with
      | false => rw [hp] at h; cases h
      | true => rfl
  rw [decide_eq_false k4, cond_false] at h hz ⊢
  by_cases k5 : q.1 = 5
  · rw [decide_eq_true k5, cond_true] at h hz ⊢
    cases hp : (applyP q.2.2.2.2.1 t).2 with
    | false => rw [hp] at h; cases h
    | true => rfl
  · rw [decide_eq_false k5, cond_false] at hz; exact absurd rfl hz
theorem some0_mem {l : List Val} {v : Val} : v ∈ some0 l ↔ v ∈ l ∧ v.1 ≠ 0 := by
  unfold some0
  rw [List.mem_filter]
  simp
section
variable {m : Map} {a b : Schema}
theorem Map0.pairs (h : Map0 m a b) : m.2.1.Pairwise fun x y => twiceR x y = false := (noTwice_pair h.twice).1
theorem Map0.okA (h : Map0 m a b) : Okay a := (schemaC_ok a).1 h.sa
theorem Map0.okB (h : Map0 m a b) : Okay b := (schemaC_ok b).1 h.sb
theorem Map0.to (h : Map0 m a b) {r : Rule} (hr : r ∈ m.2.1) (k : r.1 ≠ 2) : hasS b r.2.2.1 = true := (ends_zero (ruleC_zero (h.rules r hr)).2.1).2.2.2 k
theorem Map0.to0 (h : Map0 m a b) {r : Rule} (hr : r ∈ m.2.1) (k : r.1 ≠ 2) : r.2.2.1 ≠ 0 := by
  have := has_range2 h.okB (h.to hr k)
  omega
theorem ys_apart (h : Map0 m a b) : ∀ {l ys : List Val}, Ris l → fieldsV m b l = .inr ys → Apart (some0 ys)
  | [], ys, _, hy => by cases hy; exact List.Pairwise.nil
  | v :: r, ys, hr, hy => by
    rw [fieldsV] at hy
    have hr := List.pairwise_cons.1 hr
    cases hf : findR m v.1 with
    | none => rw [hf] at hy; cases hy
    | some q =>
      rw [hf] at hy
      dsimp only at hy
      cases hz : decide ((applyR q b v.2.1).2 = 0) with
      | false => rw [hz] at hy; cases hy
      | true =>
        rw [hz, Bool.not_true, cond_false] at hy
        cases hv : fieldsV m b r with
        | inl f => rw [hv] at hy; cases hy
        | inr zs =>
          rw [hv] at hy
          cases hy
          have ih := ys_apart h hr.2 hv
          unfold some0 at ih ⊢
          rw [List.filter_cons]
          split
          · rename_i hnz
            have hnz : (applyR q b v.2.1).1.1 ≠ 0 := by simpa using hnz
            refine List.pairwise_cons.2 ⟨fun z hzm => ?_, ih⟩
            obtain ⟨z1, z2⟩ := some0_mem.1 hzm
            obtain ⟨w, hw, q', hf', h0', rfl⟩ := fieldsV_mem hv z z1
            obtain ⟨a1, a2⟩ := applyR_to (of_decide_eq_true hz) hnz
            obtain ⟨b1, b2⟩ := applyR_to h0' z2
            rw [a2, b2]
            obtain ⟨qm, qf⟩ := findR_mem hf
            obtain ⟨qm', qf'⟩ := findR_mem hf'
            have hlt := hr.1 w hw
            have hne : q ≠ q' := fun e => by subst e; omega
            exact tos_apart (pair_mem h.pairs q qm q' qm' hne) (h.to0 qm a1)
          · exact ih
theorem consts_mem {l : List Rule} {v : Val} : v ∈ constL l ↔ ∃ r ∈ l, r.1 = 3 ∧ v = (r.2.2.1, r.2.2.2.1, ()) := by
  unfold constL
  rw [List.mem_map]
  constructor
  · rintro ⟨r, hr, rfl⟩
    rw [List.mem_filter] at hr
    exact ⟨r, hr.1, of_decide_eq_true hr.2, rfl⟩
  · rintro ⟨r, hr, k, rfl⟩
    exact ⟨r, List.mem_filter.2 ⟨hr, decide_eq_true k⟩, rfl⟩
theorem consts_apart (h : Map0 m a b) : Apart (constL m.2.1) := by
  unfold constL
  refine List.pairwise_map.2 ?_
  refine List.Pairwise.imp_of_mem ?_ (h.pairs.filter _)
  intro x y hx hy hxy
  have hx := List.mem_filter.1 hx
  have k : x.1 = 3 := of_decide_eq_true hx.2
  exact tos_apart hxy (h.to0 hx.1 (by omega))
theorem cross_apart (h : Map0 m a b) {l ys : List Val} (hl : ∀ v ∈ l, hasS a v.1 = true) (hy : fieldsV m b l = .inr ys) : ∀ c ∈ constL m.2.1, ∀ y ∈ some0 ys, c.1 ≠ y.1 := by
  intro c hc y hym
  obtain ⟨r, hr, k, rfl⟩ := consts_mem.1 hc
  obtain ⟨y1, y2⟩ := some0_mem.1 hym
  obtain ⟨w, hw, q, hf, h0, rfl⟩ := fieldsV_mem hy y y1
  obtain ⟨b1, b2⟩ := applyR_to h0 y2
  rw [b2]
  obtain ⟨qm, qf⟩ := findR_mem hf
  have hwr := has_range2 h.okA (hl w hw)
  have hz := (ends_zero (ruleC_zero (h.rules r hr)).2.1).1 k
  have hne : r ≠ q := fun e => by subst e; omega
  exact tos_apart (pair_mem h.pairs r hr q qm hne) (h.to0 hr (by omega))
theorem all_apart (h : Map0 m a b) {l ys : List Val} (hr : Ris l) (hl : ∀ v ∈ l, hasS a v.1 = true) (hy : fieldsV m b l = .inr ys) : Apart (constL m.2.1 ++ some0 ys) :=
  List.pairwise_append.2 ⟨consts_apart h, ys_apart h hr hy, cross_apart h hl hy⟩
theorem all_range (h : Map0 m a b) {l ys : List Val} (hy : fieldsV m b l = .inr ys) : ∀ v ∈ constL m.2.1 ++ some0 ys, hasS b v.1 = true := by
  intro v hv
  rcases List.mem_append.1 hv with hv | hv
  · obtain ⟨r, hr, k, rfl⟩ := consts_mem.1 hv
    exact h.to hr (by omega)
  · obtain ⟨y1, y2⟩ := some0_mem.1 hv
    obtain ⟨w, hw, q, hf, h0, rfl⟩ := fieldsV_mem hy v y1
    obtain ⟨b1, b2⟩ := applyR_to h0 y2
    rw [b2]
    exact h.to (findR_mem hf).1 b1
end
def bucket (vs : List Val) : Nat → Nat → List Val
  | 0, _ => []
  | n + 1, k => (vs.filter fun v => decide (v.1 = (k : Int))) ++ bucket vs n (k + 1)
theorem bucket_mem {vs : List Val} {v : Val} : ∀ {n k : Nat}, v ∈ bucket vs n k ↔ v ∈ vs ∧ (k : Int) ≤ v.1 ∧ v.1 < ((k + n : Nat) : Int)
  | 0, k => by simp only [bucket, List.not_mem_nil, false_iff]; omega
  | n + 1, k => by
    rw [bucket, List.mem_append, List.mem_filter, decide_eq_true_eq, bucket_mem]
    constructor
    · rintro (⟨h1, h2⟩ | ⟨h1, h2, h3⟩)
      · exact ⟨h1, by omega, by omega⟩
      · exact ⟨h1, by omega, by omega⟩
    · rintro ⟨h1, h2, h3⟩
      by_cases e : v.1 = (k : Int)
      · exact .inl ⟨h1, e⟩
      · exact .inr ⟨h1, by omega, by omega⟩
theorem bucket_ris {vs : List Val} (h : Apart (some0 vs)) : ∀ (n k : Nat), 1 ≤ k → Ris (bucket vs n k)
  | 0, k, _ => List.Pairwise.nil
  | n + 1, k, hk => by
    rw [bucket]
    refine List.pairwise_append.2 ⟨?_, bucket_ris h n (k + 1) (by omega), fun x hx y hy => ?_⟩
    · have e : (vs.filter fun v => decide (v.1 = (k : Int))) = (some0 vs).filter fun v => decide (v.1 = (k : Int)) := by
        unfold some0
        rw [List.filter_filter]
        congr 1
        funext v
        by_cases hv : v.1 = (k : Int)
        · rw [decide_eq_true hv, decide_eq_false (by omega : ¬ v.1 = 0)]; rfl
        · rw [decide_eq_false hv]; rfl
      rw [e]
      refine List.Pairwise.imp_of_mem ?_ (h.filter _)
      intro x y hx hy hne
      have h1 := of_decide_eq_true (List.mem_filter.1 hx).2
      have h2 := of_decide_eq_true (List.mem_filter.1 hy).2
      omega
    · have h1 := of_decide_eq_true (List.mem_filter.1 hx).2
      have h2 := (bucket_mem.1 hy).2.1
      omega
def transD (m : Map) (a b : Schema) (x : Msg) : Msg × Fault :=
  bif !decide ((mapC m a b).1 = 0) then (msg0, (1, -1, ())) else bif !decide ((msgC a x).1 = 0) then (msg0, msgC a x) else bif !(applyP m.1 x.1).2 then (msg0, (7, 0, ()))
  else match fieldsV m b x.2.1 with
    | .inl f => (msg0, f)
    | .inr ys => (((applyP m.1 x.1).1, bucket (ys ++ constL m.2.1) 127 2, ()), fault0)
theorem some0_append (l r : List Val) : some0 (l ++ r) = some0 l ++ some0 r := by unfold some0; rw [List.filter_append]
theorem some0_consts {m : Map} {a b : Schema} (h : Map0 m a b) : some0 (constL m.2.1) = constL m.2.1 := by
  unfold some0
  refine List.filter_eq_self.2 fun v hv => ?_
  obtain ⟨r, hr, k, rfl⟩ := consts_mem.1 hv
  have := h.to0 hr (by omega)
  simpa using this
theorem apart_swap {l r : List Val} (h : Apart (l ++ r)) : Apart (r ++ l) := by
  obtain ⟨h1, h2, h3⟩ := List.pairwise_append.1 h
  exact List.pairwise_append.2 ⟨h2, h1, fun x hx y hy e => h3 y hy x hx e.symm⟩
theorem both_same {m : Map} {a b : Schema} (h : Map0 m a b) {l ys : List Val} (hr : Ris l) (hl : ∀ v ∈ l, hasS a v.1 = true) (hy : fieldsV m b l = .inr ys) (t : ByteArray) :
    putAll (some0 ys) (constsM m.2.1 (t, [], ())) = (t, bucket (ys ++ constL m.2.1) 127 2, ()) := by
  rw [constsM_put, ← putAll_append]
  have hap := all_apart h hr hl hy
  have hs : some0 (ys ++ constL m.2.1) = some0 ys ++ constL m.2.1 := by rw [some0_append, some0_consts h]
  refine msg_ext.2 ⟨putAll_head _ _, ?_⟩
  refine ris_ext (putAll_ris _ List.Pairwise.nil) (bucket_ris (by rw [hs]; exact apart_swap hap) 127 2 (by omega)) fun v => ?_
  rw [putAll_mem _ _ hap (fun _ _ w hw => by cases hw) v, bucket_mem]
  constructor
  · rintro (hv | hv)
    · cases hv
    · have hb := has_range2 h.okB (all_range h hy v hv)
      refine ⟨?_, by omega, by omega⟩
      rcases List.mem_append.1 hv with hv | hv
      · exact List.mem_append_right _ hv
      · exact List.mem_append_left _ (some0_mem.1 hv).1
  · rintro ⟨hv, h1, h2⟩
    right
    rcases List.mem_append.1 hv with hv | hv
    · exact List.mem_append_right _ (some0_mem.2 ⟨hv, by omega⟩)
    · exact List.mem_append_left _ hv
theorem trans_same (m : Map) (a b : Schema) (x : Msg) : transC m a b x = transD m a b x := by
  unfold transC transD
  by_cases h1 : (mapC m a b).1 = 0
  · rw [decide_eq_true h1, Bool.not_true, cond_false, cond_false]
    by_cases h2 : (msgC a x).1 = 0
    · rw [decide_eq_true h2, Bool.not_true, cond_false, cond_false]
      cases (applyP m.1 x.1).2 with
      | false => rfl
      | true =>
        rw [Bool.not_true, cond_false, cond_false]
        obtain ⟨g1, g2, g3⟩ := fieldsC_none.1 (msg0_iff.1 h2).flds
        rcases fieldsT_put m b x.2.1 (constsM m.2.1 ((applyP m.1 x.1).1, [], ())) with ⟨f, o, e1, e2⟩ | ⟨ys, e1, e2⟩
        · rw [e1, e2]
        · rw [e1, e2]
          dsimp only
          rw [both_same (map0_iff.1 h1) g2 (fun v hv => (g1 v hv).1) e2]
    · rw [decide_eq_false h2]; rfl
  · rw [decide_eq_false h1]; rfl
end Groat
set_option linter.unusedVariables false
set_option linter.unusedSimpArgs false
namespace Groat
open Go Go.Ref
theorem applyR_size {r : Rule} {b : Schema} {t : ByteArray} (ht : t.size ≤ 1099511627776) (hr : RuleOk r) : (applyR r b t).1.2.1.size ≤ 1099511627776 := by
  have h0 : (bs []).size ≤ 1099511627776 := by decide
  unfold applyR
  cases decide (r.1 = 1) with
  | true => exact ht
  | false =>
    rw [cond_false]
    cases decide (r.1 = 2) with
    | true => exact h0
    | false =>
      rw [cond_false]
      cases decide (r.1 = 3) with
      | true => exact hr.text
      | false =>
        rw [cond_false]
        cases decide (r.1 = 4) with
        | true =>
          rw [cond_true]
          cases hasS b r.2.2.1 with
          | false => exact h0
          | true =>
            rw [Bool.not_true, cond_false]
            cases hp : (padD t (getS b r.2.2.1).2.2.2.1).2 with
            | false => exact h0
            | true =>
              obtain ⟨p1, p2, p3, p4⟩ := padD_ok hp
              show (padD t (getS b r.2.2.1).2.2.2.1).1.size ≤ _
              omega
        | false =>
          rw [cond_false]
          cases decide (r.1 = 5) with
          | true =>
            rw [cond_true]
            cases hp : (applyP r.2.2.2.2.1 t).2 with
            | false => exact h0
            | true =>
              obtain ⟨p, hm, _, hq⟩ := applyP_mem hp
              show (applyP r.2.2.2.2.1 t).1.size ≤ _
              rw [hq]
              exact (hr.pairs.sz p hm).2
          | false => exact h0
theorem fieldsV_some {m : Map} {b : Schema} : ∀ {l : List Val} {f : Fault}, fieldsV m b l = .inl f → f.1 ≠ 0
  | [], f, h => by cases h
  | v :: r, f, h => by
    rw [fieldsV] at h
    cases hf : findR m v.1 with
    | none => rw [hf] at h; cases h; exact (by decide : (9 : Int) ≠ 0)
    | some q =>
      rw [hf] at h
      dsimp only at h
      by_cases hz : (applyR q b v.2.1).2 = 0
      · rw [decide_eq_true hz, Bool.not_true, cond_false] at h
        cases hr : fieldsV m b r with
        | inl g => rw [hr] at h; cases h; exact fieldsV_some hr
        | inr ys => rw [hr] at h; cases h
      · rw [decide_eq_false hz, Bool.not_false, cond_true] at h
        cases h; exact hz
structure Done21 (m : Map) (a b : Schema) (x : Msg) (ys : List Val) : Prop where
  map : Map0 m a b
  msg : Msg0 a x
  head : (applyP m.1 x.1).2 = true
  vals : fieldsV m b x.2.1 = .inr ys
theorem trans_cases (m : Map) (a b : Schema) (x : Msg) : (∃ f, f.1 ≠ 0 ∧ transC m a b x = (msg0, f)) ∨ ∃ ys, Done21 m a b x ys ∧ transC m a b x = (((applyP m.1 x.1).1, bucket (ys ++ constL m.2.1) 127 2, ()), fault0) := by
  rw [trans_same]
  unfold transD
  by_cases h1 : (mapC m a b).1 = 0
  · rw [decide_eq_true h1, Bool.not_true, cond_false]
    by_cases h2 : (msgC a x).1 = 0
    · rw [decide_eq_true h2, Bool.not_true, cond_false]
      cases h3 : (applyP m.1 x.1).2 with
      | false => exact .inl ⟨_, by decide, rfl⟩
      | true =>
        rw [Bool.not_true, cond_false]
        cases h4 : fieldsV m b x.2.1 with
        | inl f => exact .inl ⟨f, fieldsV_some h4, rfl⟩
        | inr ys => exact .inr ⟨ys, ⟨map0_iff.1 h1, msg0_iff.1 h2, h3, h4⟩, rfl⟩
    · rw [decide_eq_false h2]; exact .inl ⟨_, h2, rfl⟩
  · rw [decide_eq_false h1]; exact .inl ⟨_, by decide, rfl⟩
theorem Done21.eq {m : Map} {a b : Schema} {x : Msg} {ys : List Val} (h : Done21 m a b x ys) : transC m a b x = (((applyP m.1 x.1).1, bucket (ys ++ constL m.2.1) 127 2, ()), fault0) := by
  rw [trans_same]
  unfold transD
  rw [decide_eq_true (map0_iff.2 h.map), Bool.not_true, cond_false, decide_eq_true (msg0_iff.2 h.msg), Bool.not_true, cond_false, h.head, h.vals]
  rfl
section
variable {m : Map} {a b : Schema} {x : Msg} {ys : List Val}
theorem Done21.flds (h : Done21 m a b x ys) : (∀ v ∈ x.2.1, hasS a v.1 = true ∧ valC (getS a v.1) v.2.1 = 0) ∧ Ris x.2.1 ∧ ∀ v ∈ x.2.1, 0 < v.1 := fieldsC_none.1 h.msg.flds
theorem Done21.ris (h : Done21 m a b x ys) : Ris (bucket (ys ++ constL m.2.1) 127 2) := by
  obtain ⟨g1, g2, g3⟩ := h.flds
  refine bucket_ris ?_ 127 2 (by omega)
  rw [some0_append, some0_consts h.map]
  exact apart_swap (all_apart h.map g2 (fun v hv => (g1 v hv).1) h.vals)
theorem Done21.mem (h : Done21 m a b x ys) (v : Val) : v ∈ bucket (ys ++ constL m.2.1) 127 2 ↔ v ∈ constL m.2.1 ∨ (v ∈ ys ∧ v.1 ≠ 0) := by
  rw [bucket_mem, List.mem_append]
  have hr := all_range h.map h.vals
  constructor
  · rintro ⟨h1 | h1, h2, h3⟩
    · exact .inr ⟨h1, by omega⟩
    · exact .inl h1
  · rintro (h1 | ⟨h1, h2⟩)
    · have := has_range2 h.map.okB (hr v (List.mem_append_left _ h1))
      exact ⟨.inr h1, by omega, by omega⟩
    · have := has_range2 h.map.okB (hr v (List.mem_append_right _ (some0_mem.2 ⟨h1, h2⟩)))
      exact ⟨.inl h1, by omega, by omega⟩
theorem Done21.valid (h : Done21 m a b x ys) (hm : MapOk m) (hx : MsgOk x) : ∀ v ∈ bucket (ys ++ constL m.2.1) 127 2, hasS b v.1 = true ∧ v.2.1.size ≤ 1099511627776 ∧ valC (getS b v.1) v.2.1 = 0 := by
  intro v hv
  obtain ⟨g1, g2, g3⟩ := h.flds
  rcases (h.mem v).1 hv with hv | ⟨hv, hz⟩
  · obtain ⟨r, hr, k, rfl⟩ := consts_mem.1 hv
    have hc := (ruleC_zero (h.map.rules r hr)).2.2.2
    unfold kindC at hc
    rw [decide_eq_false (by omega : ¬ r.1 = 1), decide_eq_true k, cond_false, cond_true] at hc
    exact ⟨h.map.to hr (by omega), (hm.rules r hr).text, hc⟩
  · obtain ⟨w, hw, q, hf, h0, rfl⟩ := fieldsV_mem h.vals v hv
    obtain ⟨b1, b2⟩ := applyR_to h0 hz
    obtain ⟨qm, qf⟩ := findR_mem hf
    have hwt := hx.txt w hw
    have := (apply_valid (r := q) (a := a) (b := b) hwt (hm.rules q qm) (h.map.rules q qm) h.map.okB (fun _ => by rw [qf]; exact (g1 w hw).2)).2 h0
    obtain ⟨e1, e2, e3⟩ := this.2 b1
    rw [b2]
    exact ⟨e2, applyR_size hwt (hm.rules q qm), e3⟩
theorem versM_iff {t : ByteArray} {v : Int} (h : versM t v = true) : rightM t = true ∧ verM t = v := by
  unfold versM at h
  rw [Bool.and_eq_true, decide_eq_true_eq] at h
  refine ⟨h.1, ?_⟩
  unfold verM
  rw [h.1]; exact h.2
theorem Done21.mti (h : Done21 m a b x ys) : rightM (applyP m.1 x.1).1 = true ∧ verM (applyP m.1 x.1).1 = b.2.1 := by
  obtain ⟨p, hp, _, e⟩ := applyP_mem h.head
  have ht := h.map.typed p hp
  unfold typedP at ht
  rw [Bool.and_eq_true, Bool.and_eq_true] at ht
  rw [e]
  exact versM_iff ht.2.1
theorem Done21.out (h : Done21 m a b x ys) (hm : MapOk m) (hx : MsgOk x) : Msg0 b ((applyP m.1 x.1).1, bucket (ys ++ constL m.2.1) 127 2, ()) := by
  have hv := h.valid hm hx
  refine ⟨h.map.sb, h.mti.1, h.mti.2, fieldsC_none.2 ⟨fun v hm => ⟨(hv v hm).1, (hv v hm).2.2⟩, h.ris, fun v hm => ?_⟩⟩
  have := has_range2 h.map.okB (hv v hm).1
  omega
end
theorem ris_len : ∀ {l : List Val} {lo : Int}, Ris l → (∀ v ∈ l, lo < v.1 ∧ v.1 ≤ 128) → (l.length : Int) ≤ max 0 (128 - lo)
  | [], lo, _, _ => by simp; omega
  | x :: r, lo, h, hr => by
    have h := List.pairwise_cons.1 h
    have hx := hr x List.mem_cons_self
    have := ris_len (l := r) (lo := x.1) h.2 (fun v hv => ⟨h.1 v hv, (hr v (List.mem_cons_of_mem _ hv)).2⟩)
    simp only [List.length_cons]
    omega
theorem Done21.ok {m : Map} {a b : Schema} {x : Msg} {ys : List Val} (h : Done21 m a b x ys) (hm : MapOk m) (hx : MsgOk x) : MsgOk ((applyP m.1 x.1).1, bucket (ys ++ constL m.2.1) 127 2, ()) := by
  have hv := h.valid hm hx
  refine ⟨?_, ?_, fun v hv' => (hv v hv').2.1⟩
  · have := (rightM_iff.1 h.mti.1).1
    show (applyP m.1 x.1).1.size ≤ _
    omega
  · have := ris_len (lo := 0) h.ris (fun v hv' => by have := has_range2 h.map.okB (hv v hv').1; omega)
    show (bucket (ys ++ constL m.2.1) 127 2).length ≤ _
    omega
def goodV (m : Map) (b : Schema) (v : Val) : Prop := ∃ q, findR m v.1 = some q ∧ (applyR q b v.2.1).2 = 0
theorem fieldsV_ok {m : Map} {b : Schema} : ∀ {l : List Val}, (∃ ys, fieldsV m b l = .inr ys) ↔ ∀ v ∈ l, goodV m b v
  | [] => ⟨fun _ v hv => (by cases hv), fun _ => ⟨[], rfl⟩⟩
  | v :: r => by
    rw [fieldsV]
    constructor
    · rintro ⟨ys, h⟩ w hw
      cases hf : findR m v.1 with
      | none => rw [hf] at h; cases h
      | some q =>
        rw [hf] at h
        dsimp only at h
        cases hz : decide ((applyR q b v.2.1).2 = 0) with
        | false => rw [hz] at h; cases h
        | true =>
          rw [hz, Bool.not_true, cond_false] at h
          rcases List.mem_cons.1 hw with rfl | hw
          · exact ⟨q, hf, of_decide_eq_true hz⟩
          · cases hr : fieldsV m b r with
            | inl g => rw [hr] at h; cases h
            | inr zs => exact fieldsV_ok.1 ⟨zs, hr⟩ w hw
    · intro h
      obtain ⟨q, hf, hz⟩ := h v List.mem_cons_self
      obtain ⟨zs, hr⟩ := fieldsV_ok.2 fun w hw => h w (List.mem_cons_of_mem _ hw)
      rw [hf, hr]
      dsimp only
      rw [decide_eq_true hz]
      exact ⟨_, rfl⟩
theorem fieldsV_in {m : Map} {b : Schema} : ∀ {l ys : List Val}, fieldsV m b l = .inr ys → ∀ v ∈ l, ∃ q, findR m v.1 = some q ∧ (applyR q b v.2.1).2 = 0 ∧ (applyR q b v.2.1).1 ∈ ys
  | [], ys, h, v, hv => by cases hv
  | x :: r, ys, h, v, hv => by
    rw [fieldsV] at h
    cases hf : findR m x.1 with
    | none => rw [hf] at h; cases h
    | some q =>
      rw [hf] at h
      dsimp only at h
      cases hz : decide ((applyR q b x.2.1).2 = 0) with
      | false => rw [hz] at h; cases h
      | true =>
        rw [hz, Bool.not_true, cond_false] at h
        cases hr : fieldsV m b r with
        | inl f => rw [hr] at h; cases h
        | inr zs =>
          rw [hr] at h
          cases h
          rcases List.mem_cons.1 hv with rfl | hv
          · exact ⟨q, hf, of_decide_eq_true hz, List.mem_cons_self⟩
          · obtain ⟨q', g1, g2, g3⟩ := fieldsV_in hr v hv
            exact ⟨q', g1, g2, List.mem_cons_of_mem _ g3⟩
theorem Done21.part {m : Map} {a b : Schema} {x : Msg} {ys : List Val} (h : Done21 m a b x ys) {l : List Val} (hl : List.Sublist l x.2.1) : ∃ zs, Done21 m a b (x.1, l, ()) zs := by
  obtain ⟨g1, g2, g3⟩ := h.flds
  obtain ⟨zs, hz⟩ := fieldsV_ok.2 fun v hv => fieldsV_ok.1 ⟨ys, h.vals⟩ v (hl.subset hv)
  exact ⟨zs, h.map, ⟨h.msg.sch, h.msg.right, h.msg.ver, fieldsC_none.2 ⟨fun v hv => g1 v (hl.subset hv), g2.sublist hl, fun v hv => g3 v (hl.subset hv)⟩⟩, h.head, hz⟩
end Groat
set_option linter.unusedVariables false
set_option linter.unusedSimpArgs false
namespace Groat
open Go Go.Ref
abbrev tVal : Ty := .pair (.int .i64) (.pair .str .unit)
abbrev tMsg : Ty := .pair .str (.pair (.sl 0 tVal) .unit)
theorem fault_dec (f : Fault) : ((decide (f.1 = (0 : Int))) && ((decide (f.2.1 = (0 : Int))) && true)) = decide (f = fault0) := by
  rw [Bool.and_true, ← Bool.decide_and]
  exact decide_eq_decide.2 ⟨fun h => Prod.ext h.1 (Prod.ext h.2 rfl), fun h => by rw [h]; exact ⟨rfl, rfl⟩⟩
theorem w0 {R : Type} (x : Option R) : within 0 2 x = x := within_int (by omega) (by omega)
theorem w1 {R : Type} (x : Option R) : within 1 2 x = x := within_int (by omega) (by omega)
end Groat
set_option linter.unusedVariables false
set_option linter.unusedSimpArgs false
namespace Groat
open Go Go.Ref
theorem dupP_none : ∀ {l : List Pair} {seen : List ByteArray} {i : Int}, dupP seen l i = none → (∀ p ∈ l, p.1 ∉ seen) ∧ l.Pairwise fun x y => x.1 ≠ y.1
  | [], seen, i, h => ⟨fun p hp => (by cases hp), List.Pairwise.nil⟩
  | q :: r, seen, i, h => by
    rw [dupP] at h
    by_cases e : q.1 ∈ seen
    · rw [if_pos e] at h; cases h
    · rw [if_neg e] at h
      obtain ⟨h1, h2⟩ := dupP_none h
      refine ⟨fun p hp => ?_, List.pairwise_cons.2 ⟨fun p hp he => ?_, h2⟩⟩
      · rcases List.mem_cons.1 hp with rfl | hp
        · exact e
        · exact fun hm => h1 p hp (List.mem_append_left _ hm)
      · exact h1 p hp (by rw [he]; simp)
theorem find_uniq {α : Type} {p : α → Bool} : ∀ {l : List α} {x : α}, x ∈ l → p x = true → (∀ y ∈ l, p y = true → y = x) → l.find? p = some x
  | [], x, h, _, _ => by cases h
  | a :: r, x, h, hp, hu => by
    rw [List.find?_cons]
    cases ha : p a with
    | true => rw [hu a List.mem_cons_self ha]
    | false =>
      rcases List.mem_cons.1 h with rfl | h
      · rw [hp] at ha; cases ha
      · exact find_uniq h hp fun y hy => hu y (List.mem_cons_of_mem _ hy)
theorem pair_one {l : List Pair} (h : l.Pairwise fun x y => x.1 ≠ y.1) : ∀ x ∈ l, ∀ y ∈ l, x.1 = y.1 → x = y := by
  induction l with
  | nil => intro x hx; cases hx
  | cons a r ih =>
    obtain ⟨h1, h2⟩ := List.pairwise_cons.1 h
    intro x hx y hy e
    rcases List.mem_cons.1 hx with ex | hx'
    · rcases List.mem_cons.1 hy with ey | hy'
      · rw [ex, ey]
      · rw [ex] at e; exact absurd e (h1 y hy')
    · rcases List.mem_cons.1 hy with ey | hy'
      · rw [ey] at e; exact absurd e.symm (h1 x hx')
      · exact ih h2 x hx' y hy' e
theorem applyP_one {l : List Pair} (h : l.Pairwise fun x y => x.1 ≠ y.1) {p : Pair} (hp : p ∈ l) : applyP l p.1 = (p.2.1, true) := by
  unfold applyP
  rw [find_uniq hp (by simp) fun y hy he => pair_one h y hy p hp (of_decide_eq_true he)]
theorem applyP_back {l : List Pair} (h : bij l = true) {t : ByteArray} (ht : (applyP l t).2 = true) : applyP (turnP l) (applyP l t).1 = (t, true) := by
  obtain ⟨p, hp, e1, e2⟩ := applyP_mem ht
  rw [e2, ← e1]
  have hm : ((p.2.1, p.1, ()) : Pair) ∈ turnP l := List.mem_map.2 ⟨p, hp, rfl⟩
  exact applyP_one (dupP_none (tableC_dup (bij_iff.1 h).2).2).2 hm
theorem allD_rep (c : Nat) : allD (List.replicate c 48) = true := by
  rw [allD, List.all_eq_true]
  intro x hx
  rw [(List.mem_replicate.1 hx).2]; rfl
theorem allZ_rep (c : Nat) : allZ (List.replicate c 48) = true := by
  rw [allZ, List.all_eq_true]
  intro x hx
  rw [(List.mem_replicate.1 hx).2]; rfl
theorem padD_up {t : ByteArray} {w : Int} (h1 : 1 ≤ t.size) (h2 : (t.size : Int) ≤ w) (h3 : w ≤ 999) (hd : allD (bl t) = true) : padD t w = (strOf (List.replicate (w - t.size).toNat 48 ++ bl t), true) := by
  rw [padD_t ⟨h1, by omega, hd, by omega, h3⟩, decide_eq_true h2]; rfl
theorem padD_back {t : ByteArray} {w : Int} (h1 : 1 ≤ t.size) (h2 : (t.size : Int) ≤ w) (h3 : w ≤ 999) (hd : allD (bl t) = true) : padD (padD t w).1 (t.size : Int) = (t, true) := by
  rw [padD_up h1 h2 h3 hd]
  show padD (strOf (List.replicate (w - t.size).toNat 48 ++ bl t)) _ = _
  obtain ⟨c, hc⟩ : ∃ c : Nat, w = t.size + c := ⟨(w - t.size).toNat, by omega⟩
  rw [show (w - (t.size : Int)).toNat = c by omega]
  have hd' : allD (List.replicate c 48 ++ bl t) = true := by
    have e : allD (List.replicate c 48 ++ bl t) = (allD (List.replicate c 48) && allD (bl t)) := List.all_append ..
    rw [e, allD_rep, hd]; rfl
  have hl' : (List.replicate c (48 : Int) ++ bl t).length = c + t.size := by rw [List.length_append, List.length_replicate, bl_length]
  rw [padD_t ⟨by rw [strOf_size]; omega, by rw [strOf_size]; omega, by rw [bl_strOf (dig_byte hd')]; exact hd', by omega, by omega⟩, strOf_size, hl', bl_strOf (dig_byte hd')]
  cases c with
  | zero =>
    rw [decide_eq_true (by omega), cond_true, show ((t.size : Int) - ((0 + t.size : Nat) : Int)).toNat = 0 by omega, List.replicate_zero, List.nil_append, List.nil_append, strOf_bl]
  | succ c =>
    rw [decide_eq_false (by omega), cond_false, show c + 1 + t.size - (t.size : Int).toNat = c + 1 by omega, List.take_left' (by simp), List.drop_left' (by simp), allZ_rep, strOf_bl]; rfl
theorem inv_kind {r : Rule} {a b : Schema} (hu : undoneR r a b = true) : r.1 = 1 ∨ (r.1 = 4 ∧ (getS a r.2.1).2.2.2.1 ≤ (getS b r.2.2.1).2.2.2.1) ∨ (r.1 = 5 ∧ bij r.2.2.2.2.1 = true) := by
  unfold undoneR at hu
  by_cases k1 : r.1 = 1
  · exact .inl k1
  by_cases k4 : r.1 = 4
  · rw [decide_eq_false k1, decide_eq_true k4, cond_false, cond_true] at hu
    exact .inr (.inl ⟨k4, of_decide_eq_true hu⟩)
  by_cases k5 : r.1 = 5
  · rw [decide_eq_false k1, decide_eq_false k4, decide_eq_true k5] at hu
    exact .inr (.inr ⟨k5, hu⟩)
  rw [decide_eq_false k1, decide_eq_false k4, decide_eq_false k5] at hu
  cases hu
theorem apply1 {r : Rule} (k : r.1 = 1) (b : Schema) (t : ByteArray) : applyR r b t = ((r.2.2.1, t, ()), 0) := by
  unfold applyR; rw [decide_eq_true k]; rfl
theorem apply4 {r : Rule} (k : r.1 = 4) {b : Schema} (hb : hasS b r.2.2.1 = true) (t : ByteArray) : applyR r b t = (bif !(padD t (getS b r.2.2.1).2.2.2.1).2 then (val0, 5) else ((r.2.2.1, (padD t (getS b r.2.2.1).2.2.2.1).1, ()), 0)) := by
  unfold applyR
  rw [decide_eq_false (by omega : ¬ r.1 = 1), decide_eq_false (by omega : ¬ r.1 = 2), decide_eq_false (by omega : ¬ r.1 = 3), decide_eq_true k, hb]; rfl
theorem apply5 {r : Rule} (k : r.1 = 5) (b : Schema) (t : ByteArray) : applyR r b t = (bif !(applyP r.2.2.2.2.1 t).2 then (val0, 15) else ((r.2.2.1, (applyP r.2.2.2.2.1 t).1, ()), 0)) := by
  unfold applyR
  rw [decide_eq_false (by omega : ¬ r.1 = 1), decide_eq_false (by omega : ¬ r.1 = 2), decide_eq_false (by omega : ¬ r.1 = 3), decide_eq_false (by omega : ¬ r.1 = 4), decide_eq_true k]; rfl
theorem Rule0.pads {r : Rule} {a b : Schema} (h : Rule0 r a b) (k : r.1 = 4) : padS (getS a r.2.1) = true ∧ padS (getS b r.2.2.1) = true := by
  have hk := h.kind
  unfold kindC at hk
  rw [decide_eq_false (by omega : ¬ r.1 = 1), decide_eq_false (by omega : ¬ r.1 = 3), decide_eq_true k, cond_false, cond_false, cond_true] at hk
  cases h1 : padS (getS a r.2.1) with
  | false => rw [h1] at hk; simp at hk
  | true =>
    cases h2 : padS (getS b r.2.2.1) with
    | false => rw [h1, h2] at hk; simp at hk
    | true => exact ⟨rfl, rfl⟩
theorem pad_text {r : Rule} {a b : Schema} (h : Rule0 r a b) (ob : Okay b) (k : r.1 = 4) (hm : (getS a r.2.1).2.2.2.1 ≤ (getS b r.2.2.1).2.2.2.1) {t : ByteArray} (ht : t.size ≤ 1099511627776) (hv : valC (getS a r.2.1) t = 0) :
    1 ≤ t.size ∧ (t.size : Int) = (getS a r.2.1).2.2.2.1 ∧ (t.size : Int) ≤ (getS b r.2.2.1).2.2.2.1 ∧ (getS b r.2.2.1).2.2.2.1 ≤ 999 ∧ allD (bl t) = true := by
  obtain ⟨p1, p2⟩ := h.pads k
  obtain ⟨c1, c2⟩ := padS_facts p1
  obtain ⟨v1, v2, v3, v4, v5⟩ := (valC_iff _ t ht).1 hv
  obtain ⟨f1, f2, f3, f4, f5, f6⟩ := specC_facts v1
  have sb := okay_spec ob (h.hasB (by omega))
  obtain ⟨g1, g2, g3, g4, g5, g6⟩ := specC_facts sb
  have e := f5 c2
  rw [c1, all_one] at v4
  exact ⟨by omega, by omega, by omega, by omega, v4⟩
theorem apply_back {r : Rule} {a b : Schema} (h : Rule0 r a b) (ob : Okay b) (hu : undoneR r a b = true) {t : ByteArray} (ht : t.size ≤ 1099511627776) (hv : valC (getS a r.2.1) t = 0) (hz : (applyR r b t).2 = 0) :
    (applyR r b t).1.1 = r.2.2.1 ∧ applyR (turnR r) a (applyR r b t).1.2.1 = ((r.2.1, t, ()), 0) := by
  rcases inv_kind hu with k | ⟨k, hm⟩ | ⟨k, hb⟩
  · rw [apply1 k, apply1 (show (turnR r).1 = 1 from k)]
    exact ⟨rfl, rfl⟩
  · obtain ⟨g1, g2, g3, g4, g5⟩ := pad_text h ob k hm ht hv
    have hp : (padD t (getS b r.2.2.1).2.2.2.1).2 = true := by rw [padD_up g1 g3 g4 g5]
    rw [apply4 k (h.hasB (by omega)), hp, Bool.not_true, cond_false]
    refine ⟨rfl, ?_⟩
    show applyR (turnR r) a (padD t (getS b r.2.2.1).2.2.2.1).1 = _
    rw [apply4 (show (turnR r).1 = 4 from k) (show hasS a (turnR r).2.2.1 = true from h.hasA (by omega))]
    show (bif !(padD (padD t (getS b r.2.2.1).2.2.2.1).1 (getS a r.2.1).2.2.2.1).2 then (val0, (5 : Int)) else ((r.2.1, (padD (padD t (getS b r.2.2.1).2.2.2.1).1 (getS a r.2.1).2.2.2.1).1, ()), 0)) = _
    rw [← g2, padD_back g1 g3 g4 g5]
    rfl
  · rw [apply5 k] at hz ⊢
    cases hp : (applyP r.2.2.2.2.1 t).2 with
    | false => rw [hp] at hz; exact absurd hz (by decide : ¬ (15 : Int) = 0)
    | true =>
      rw [Bool.not_true, cond_false]
      refine ⟨rfl, ?_⟩
      show applyR (turnR r) a (applyP r.2.2.2.2.1 t).1 = _
      rw [apply5 (show (turnR r).1 = 5 from k)]
      show (bif !(applyP (turnP r.2.2.2.2.1) (applyP r.2.2.2.2.1 t).1).2 then (val0, (15 : Int)) else ((r.2.1, (applyP (turnP r.2.2.2.2.1) (applyP r.2.2.2.2.1 t).1).1, ()), 0)) = _
      rw [applyP_back hb hp]
      rfl
theorem froms_apart {x y : Rule} (h : twiceR x y = false) (hx : x.2.1 ≠ 0) : x.2.1 ≠ y.2.1 := by
  unfold twiceR at h
  rw [Bool.or_eq_false_iff] at h
  have := h.1
  rw [decide_eq_false hx] at this
  simpa using this
theorem findR_one {m : Map} {a b : Schema} (h : Map0 m a b) {q : Rule} (hq : q ∈ m.2.1) (hz : q.2.1 ≠ 0) : findR m q.2.1 = some q := by
  unfold findR
  refine find_uniq hq (by simp) fun y hy he => ?_
  by_cases e : q = y
  · exact e.symm
  · exact absurd (of_decide_eq_true he).symm (froms_apart (pair_mem h.pairs q hq y hy e) hz)
theorem inv_rules {m : Map} {a b : Schema} (h : invC m a b = true) : Map0 m a b ∧ bij m.1 = true ∧ ∀ r ∈ m.2.1, undoneR r a b = true := by
  unfold invC at h
  simp only [Bool.and_eq_true, decide_eq_true_eq, List.all_eq_true] at h
  exact ⟨map0_iff.1 h.1, h.2.1, h.2.2⟩
theorem inv_consts {m : Map} {a b : Schema} (h : invC m a b = true) : constL m.2.1 = [] := by
  cases hc : constL m.2.1 with
  | nil => rfl
  | cons v l =>
    obtain ⟨r, hr, k, _⟩ := consts_mem.1 (show v ∈ constL m.2.1 by rw [hc]; exact List.mem_cons_self)
    rcases inv_kind ((inv_rules h).2.2 r hr) with g | ⟨g, _⟩ | ⟨g, _⟩ <;> omega
theorem invC_turn {m : Map} {a b : Schema} (h : invC m a b = true) : constL (turnM m).2.1 = [] := by
  cases hc : constL (turnM m).2.1 with
  | nil => rfl
  | cons v l =>
    obtain ⟨r, hr, k, _⟩ := consts_mem.1 (show v ∈ constL (turnM m).2.1 by rw [hc]; exact List.mem_cons_self)
    obtain ⟨q, hq, rfl⟩ := List.mem_map.1 (show r ∈ m.2.1.map turnR from hr)
    have k : q.1 = 3 := k
    rcases inv_kind ((inv_rules h).2.2 q hq) with g | ⟨g, _⟩ | ⟨g, _⟩ <;> omega
section
variable {m : Map} {a b : Schema} {x : Msg} {ys : List Val}
theorem val_back (hi : invC m a b = true) (hm : MapOk m) (hx : MsgOk x) (hd : Done21 m a b x ys) {w : Val} (hw : w ∈ x.2.1) {q : Rule} (hq : findR m w.1 = some q) (hz : (applyR q b w.2.1).2 = 0) :
    (applyR q b w.2.1).1.1 ≠ 0 ∧ findR (turnM m) (applyR q b w.2.1).1.1 = some (turnR q) ∧ applyR (turnR q) a (applyR q b w.2.1).1.2.1 = (w, 0) := by
  obtain ⟨g1, g2, g3⟩ := hd.flds
  obtain ⟨i1, i2, i3⟩ := inv_rules hi
  obtain ⟨qm, qf⟩ := findR_mem hq
  have r0 := rule0_iff.1 (i1.rules q qm)
  obtain ⟨e1, e2⟩ := apply_back r0 i1.okB (i3 q qm) (hx.txt w hw) (by rw [qf]; exact (g1 w hw).2) hz
  have hk : q.1 ≠ 2 := by rcases inv_kind (i3 q qm) with g | ⟨g, _⟩ | ⟨g, _⟩ <;> omega
  have hz0 := i1.to0 qm hk
  rw [e1, e2, qf]
  exact ⟨hz0, findR_one (map_turn hi) (q := turnR q) (List.mem_map.2 ⟨q, qm, rfl⟩) hz0, rfl⟩
theorem inv_back (hi : invC m a b = true) (hm : MapOk m) (hx : MsgOk x) (hd : Done21 m a b x ys) : transC (turnM m) b a ((applyP m.1 x.1).1, bucket (ys ++ constL m.2.1) 127 2, ()) = (x, fault0) := by
  obtain ⟨g1, g2, g3⟩ := hd.flds
  obtain ⟨i1, i2, i3⟩ := inv_rules hi
  have hc := inv_consts hi
  have hmem := hd.mem
  rw [hc] at hmem
  have out := hd.out hm hx
  rw [hc] at out ⊢
  have there : ∀ v ∈ bucket (ys ++ []) 127 2, ∃ w ∈ x.2.1, findR (turnM m) v.1 ≠ none ∧ ∀ q', findR (turnM m) v.1 = some q' → applyR q' a v.2.1 = (w, 0) := fun v hv => by
    rcases (hmem v).1 hv with hv | ⟨hv, hv0⟩
    · cases hv
    · obtain ⟨w, hw, q, hf, h0, rfl⟩ := fieldsV_mem hd.vals v hv
      obtain ⟨b1, b2, b3⟩ := val_back hi hm hx hd hw hf h0
      exact ⟨w, hw, by rw [b2]; exact nofun, fun q' hq' => by rw [b2] at hq'; cases hq'; exact b3⟩
  have hhead := applyP_back i2 hd.head
  obtain ⟨zs, hzs⟩ : ∃ zs, fieldsV (turnM m) a (bucket (ys ++ []) 127 2) = .inr zs := fieldsV_ok.2 fun v hv => by
    obtain ⟨w, hw, n1, n2⟩ := there v hv
    cases hf : findR (turnM m) v.1 with
    | none => exact absurd hf n1
    | some q' => exact ⟨q', hf, by rw [n2 q' hf]⟩
  have hd2 : Done21 (turnM m) b a ((applyP m.1 x.1).1, bucket (ys ++ []) 127 2, ()) zs := ⟨map_turn hi, out, by show (applyP (turnP m.1) (applyP m.1 x.1).1).2 = true; rw [hhead], hzs⟩
  rw [hd2.eq]
  have hl : bucket (zs ++ constL (turnM m).2.1) 127 2 = x.2.1 := by
    refine ris_ext hd2.ris g2 fun w => ?_
    rw [hd2.mem, invC_turn hi]
    constructor
    · rintro (hw | ⟨hw, hw0⟩)
      · cases hw
      · obtain ⟨v, hv, q', hf, h0, rfl⟩ := fieldsV_mem hzs w hw
        obtain ⟨u, hu, n1, n2⟩ := there v hv
        rw [n2 q' hf]; exact hu
    · intro hw
      right
      refine ⟨?_, by have := g3 w hw; omega⟩
      obtain ⟨q, hf, h0, hin⟩ := fieldsV_in hd.vals w hw
      obtain ⟨b1, b2, b3⟩ := val_back hi hm hx hd hw hf h0
      obtain ⟨q', f1, f2, f3⟩ := fieldsV_in hzs (applyR q b w.2.1).1 ((hmem _).2 (.inr ⟨hin, b1⟩))
      rw [b2] at f1
      cases f1
      rw [b3] at f3
      exact f3
  rw [hl]
  show (((applyP (turnP m.1) (applyP m.1 x.1).1).1, x.2.1, ()), fault0) = _
  rw [hhead]
end
theorem turnM_len (m : Map) : (turnM m).2.1.length = m.2.1.length := by show (m.2.1.map turnR).length = _; rw [List.length_map]
end Groat
set_option linter.unusedVariables false
set_option linter.unusedSimpArgs false
namespace Groat
open Go Go.Ref
end Groat
set_option linter.unusedVariables false
set_option linter.unusedSimpArgs false
namespace Groat
open Go Go.Ref
def fx (no c n : Int) : Spec := (no, c, 1, n, n, ())
def acqL : List Spec := [(2, 1, 2, 12, 19, ()), fx 3 1 6, fx 4 1 12, fx 7 1 10, fx 11 1 6, fx 12 1 6, fx 13 1 4, fx 14 1 4, fx 18 1 4, fx 22 1 3, fx 23 1 3, (32, 1, 2, 1, 11, ()), (35, 4, 2, 1, 37, ()), fx 37 3 12, fx 38 3 6, fx 39 3 2, fx 41 4 8, fx 42 4 15, fx 43 4 40, (48, 4, 3, 1, 999, ()), fx 49 1 3, fx 52 5 8, (55, 6, 3, 1, 255, ()), fx 64 5 8, fx 70 1 3, fx 90 1 42, (102, 4, 2, 1, 28, ()), fx 128 5 8]
def issL : List Spec := [(2, 1, 2, 12, 19, ()), fx 3 1 6, fx 4 1 12, fx 7 1 10, fx 11 1 6, fx 12 1 12, fx 14 1 4, fx 22 3 12, fx 23 1 3, fx 26 1 4, (32, 1, 2, 1, 11, ()), (35, 4, 2, 1, 37, ()), fx 37 3 12, fx 38 3 6, fx 39 1 3, fx 41 4 8, fx 42 4 15, (43, 4, 2, 1, 99, ()), (48, 4, 3, 1, 999, ()), fx 49 1 3, fx 52 5 8, (55, 6, 3, 1, 255, ()), fx 64 5 8, fx 70 1 3, (102, 4, 2, 1, 28, ()), fx 128 5 8]
def acqS : Schema := (1, 0, acqL, ())
def issS : Schema := (2, 1, issL, ())
def lossL : List Int := [2, 3, 4, 7, 11, 12, 14, 23, 32, 35, 37, 38, 41, 42, 49, 52, 55, 64, 70, 102, 128]
theorem Acquirer_eq : dialect_Acquirer = some acqS := by kernel_rfl
theorem Issuer_eq : dialect_Issuer = some issS := by kernel_rfl
end Groat
set_option linter.unusedVariables false
set_option linter.unusedSimpArgs false
namespace Groat
open Go Go.Ref
def lossR (no : Int) : Rule := (if no = 12 then 4 else 1, no, no, bs [], [], ())
def lossP : List Pair := [(bs [48, 50, 48, 48], bs [49, 50, 48, 48], ()), (bs [48, 50, 49, 48], bs [49, 50, 49, 48], ())]
def lossM : Map := (lossP, lossL.map lossR, ())
theorem lossless22_eq : w22_lossless = some lossM := by kernel_rfl
theorem set_iss : schema_Set issS = some ((setH (issL.map fun s => s.1) : Int), (setL (issL.map fun s => s.1) : Int), ()) := by kernel_rfl
theorem restrict_iss : ((schema_Set issS).bind fun r => schema_Restrict issS r) = some issS := by kernel_rfl
theorem loss_full : invC lossM acqS issS = true := by decide +kernel
theorem noTwice_of : ∀ {l prev : List Rule}, (l.Pairwise fun x y => twiceR x y = false) → (∀ p ∈ prev, ∀ x ∈ l, twiceR p x = false) → NoTwice prev l
  | [], prev, _, _ => trivial
  | r :: l, prev, h, hp => by
    obtain ⟨h1, h2⟩ := List.pairwise_cons.1 h
    refine ⟨?_, noTwice_of h2 fun p hm x hx => ?_⟩
    · cases ha : prev.any fun q => twiceR q r with
      | false => rfl
      | true =>
        obtain ⟨q, hq, he⟩ := List.any_eq_true.1 ha
        rw [hp q hq r List.mem_cons_self] at he; cases he
    · rcases List.mem_append.1 hm with hm | hm
      · exact hp p hm x (List.mem_cons_of_mem _ hx)
      · rw [List.mem_singleton.1 hm]; exact h1 x hx
theorem inv_sub {l : List Rule} (h : List.Sublist l lossM.2.1) : invC (lossM.1, l, ()) acqS issS = true := by
  obtain ⟨i1, i2, i3⟩ := inv_rules loss_full
  have h0 : Map0 (lossM.1, l, ()) acqS issS := ⟨i1.sa, i1.sb, i1.len1, i1.typed, i1.dup, Nat.le_trans h.length_le i1.len2, fun r hr => i1.rules r (h.subset hr), noTwice_of (i1.pairs.sublist h) fun p hp => by cases hp⟩
  unfold invC
  rw [decide_eq_true (map0_iff.2 h0)]
  simp only [Bool.true_and, Bool.and_eq_true, List.all_eq_true]
  exact ⟨i2, fun r hr => i3 r (h.subset hr)⟩
theorem keep_run {ρ : Type} (h l : Nat) (hh : h < B64) (hl : l < B64) (fin : List Rule → Option ρ) : ∀ (rs : List Rule) (i : Int) (s : List Rule), s.length + rs.length ≤ 1000 →
    runI (fun i (r : Rule) (s : List Rule) K => ((r05_Has h l r.2.1).bind fun r8 => (bif r8 then (bif (decide ((s.length + (List.length ([r] : List Rule))) * 64 ≤ 140737488355328)) then K (s ++ ([r] : List Rule)) else none) else K s))) fin rs i s = fin (s ++ rs.filter fun r => hasN h l r.2.1)
  | [], i, s, _ => by show fin s = _; simp
  | r :: rs, i, s, hs => by
    simp only [List.length_cons] at hs
    rw [runI, Has05_eq h l hh hl, some_bind, List.filter_cons]
    cases hasN h l r.2.1 with
    | false => exact keep_run h l hh hl fin rs (i + 1) s (by omega)
    | true =>
      rw [cond_true, decide_eq_true (by simp only [List.length_singleton]; omega), cond_true]
      refine (keep_run h l hh hl fin rs (i + 1) _ (by rw [List.length_append, List.length_singleton]; omega)).trans ?_
      rw [List.append_assoc]; rfl
theorem u64_natW {x : Int} (h : Wf (.int .u64) x) : ∃ n : Nat, x = (n : Int) ∧ n < B64 := by
  have := wf_u64 h
  exact ⟨x.toNat, by omega, by show x.toNat < 18446744073709551616; omega⟩
theorem lossM_ok {l : List Rule} (h : List.Sublist l lossM.2.1) : MapOk (lossM.1, l, ()) := by
  have h1 : ∀ p ∈ lossP, p.1.size = 4 ∧ p.2.1.size = 4 := by decide +kernel
  refine ⟨⟨by show lossP.length ≤ 1000000; decide, fun p hp => ?_⟩, ?_, fun r hr => ?_⟩
  · have := h1 p hp
    omega
  · have := h.length_le
    have e : lossM.2.1.length = 21 := by decide
    show l.length ≤ _
    omega
  · obtain ⟨no, _, rfl⟩ := List.mem_map.1 (h.subset hr)
    exact ⟨by show (bs []).size ≤ _; decide, by show ([] : List Pair).length ≤ _; decide, fun p hp => by cases hp⟩
theorem pure_InvertSchemas (high low : Int) (x : Msg) (hh : Wf (.int .u64) high) (hl : Wf (.int .u64) low) (hx : Wf tMsg x) : w22_InvertSchemas high low x = some true := by
  obtain ⟨h, rfl, bh⟩ := u64_natW hh
  obtain ⟨l, rfl, bl⟩ := u64_natW hl
  unfold w22_InvertSchemas w22_InvertSchemas_s0
  rw [awake22, some_bind, Bool.not_true, cond_false, Great16_eq x hx.2.1.1, some_bind]
  cases hgx : greatV x with
  | true => rfl
  | false =>
    obtain ⟨xo, xl, _⟩ := greatV_ok hgx
    rw [cond_false, Acquirer_eq, some_bind, Issuer_eq, some_bind, lossless22_eq, some_bind]
    have key := loopI rule0 lossM.2.1 (by decide) (fun i (r : Rule) (s : List Rule) K => ((r05_Has h l r.2.1).bind fun r8 => (bif r8 then (bif (decide ((s.length + (List.length ([r] : List Rule))) * 64 ≤ 140737488355328)) then K (s ++ ([r] : List Rule)) else none) else K s))) (fun s => some (s, x, acqS, issS, lossM))
      (fun k i s => w22_InvertSchemas_l0 k h l s lossM.2.1 (lossM.2.1.length : Int) i x acqS issS lossM) (fun k i s => rfl) []
    dsimp only at key ⊢
    rw [key, keep_run h l bh bl _ _ _ _ (by decide), some_bind, List.nil_append]
    generalize hK : (lossM.2.1.filter fun r => hasN h l r.2.1) = K
    have hs : List.Sublist K lossM.2.1 := by rw [← hK]; exact List.filter_sublist
    have hm := lossM_ok hs
    have hi := inv_sub hs
    have hKl : K.length ≤ 21 := Nat.le_trans hs.length_le (by decide)
    have la : acqS.2.2.1.length ≤ maxLen := by decide
    have lb : issS.2.2.1.length ≤ maxLen := by decide
    unfold w22_InvertSchemas_s2
    dsimp only
    rw [invCheck_eq _ acqS issS hm la lb, some_bind, hi, Bool.not_true, cond_false, Translate_eq _ acqS issS x hm (by show K.length ≤ _; omega) xo (by omega) la lb, some_bind, fault_dec]
    rcases trans_cases (lossM.1, K, ()) acqS issS x with ⟨f, hf, e⟩ | ⟨ys, hd, e⟩
    · rw [e, decide_eq_false (fun e2 => hf (by rw [show f = fault0 from e2]))]; rfl
    · rw [e, decide_eq_true rfl, Bool.not_true, cond_false, Turn_eq _ hm, some_bind]
      have hlen : (bucket (ys ++ constL K) 127 2).length ≤ 90000 := by
        have := ris_len (lo := 0) hd.ris (fun v hv' => by have := has_range2 hd.map.okB (hd.valid hm xo v hv').1; omega)
        show (bucket (ys ++ constL (lossM.1, K, ()).2.1) 127 2).length ≤ _
        omega
      have hr := restrict_iss
      rw [set_iss, some_bind] at hr
      rw [set_iss, some_bind, hr, some_bind]
      dsimp only
      rw [Translate_eq (turnM (lossM.1, K, ())) issS acqS _ hm.turn (by rw [turnM_len]; show K.length ≤ _; omega) (hd.ok hm xo) hlen lb la, some_bind, inv_back hi hm xo hd, fault_dec, decide_eq_true rfl, cond_true, Same16_eq _ _ hx.2.1.1, some_bind, decide_eq_true rfl]
end Groat
set_option linter.unusedVariables false
set_option linter.unusedSimpArgs false
set_option maxRecDepth 100000
namespace Go.Proofs.YthdphoohfdiodaaGreatDoor
open Go Go.Ref Groat
abbrev uS (n : Nat) (l : List (List Go.Ref.SV)) : List (List Go.Ref.SV) := Nat.rec (motive := fun _ => List (List Go.Ref.SV)) l (fun _ r => [.undef] :: r) n
abbrev nS (n : Nat) (l : List (Option Go.Ref.Box)) : List (Option Go.Ref.Box) := Nat.rec (motive := fun _ => List (Option Go.Ref.Box)) l (fun _ r => none :: r) n
abbrev y0 : Go.Ref.Ty := (.pair (.sl 42 (.pair .str (.pair .str .unit))) .unit)
abbrev y1 : Go.Ref.Ty := (.pair (.sl 44 (.pair (.int .i64) (.pair .str .unit))) .unit)
abbrev y2 : Go.Ref.Ty := (.pair (.int .i64) (.pair (.int .i64) (.pair (.int .i64) .unit)))
abbrev y3 : Go.Ref.Ty := (.pair .str y0)
abbrev y4 : Go.Ref.Ty := (.pair .str y1)
abbrev y5 : Go.Ref.Ty := (.pair (.int .i64) y2)
abbrev y6 : Go.Ref.Ty := (.pair (.int .i64) y3)
abbrev y7 : Go.Ref.Ty := (.pair (.int .i64) y5)
abbrev y8 : Go.Ref.Ty := (.pair (.int .i64) y6)
abbrev y9 : Go.Ref.Ty := (.pair (.int .i64) y8)
abbrev y10 : Go.Ref.Ty := (.pair (.sl 72 y7) .unit)
abbrev y11 : Go.Ref.Ty := (.pair (.int .i64) y10)
abbrev y12 : Go.Ref.Ty := (.pair (.sl 46 y9) .unit)
abbrev y13 : Go.Ref.Ty := (.pair (.int .i64) y11)
abbrev y14 : Go.Ref.Ty := (.pair (.sl 42 (.pair .str (.pair .str .unit))) y12)
def tys : List (Option Ty) := [none, none, some (.int .i64), some (.int .i64), some .bool, some (.int .u8), some (.int .u8), some (.pair (.int .i64) (.pair (.int .i64) (.pair .bool (.pair (.int .u8) .unit)))), some (.pair (.int .i64) (.pair (.int .i64) (.pair .bool (.pair (.int .u8) .unit)))), some .str, some .str, some .str, some (.int .u64), none, none, none, none, none, none, none, none, some (.int .i32), some (.sl 42 (.pair .str (.pair .str .unit))), some (.sl 46 y9), some y14, some y14, some (.sl 72 y7), some y13, some y13, some (.arr 2 y13), some (.sl 44 (.pair (.int .i64) (.pair .str .unit))), some y4, some y4, none, none, none, none, some (.int .i64), some (.pair (.int .i64) (.pair (.int .i64) .unit)), some (.pair (.int .i64) (.pair (.int .i64) .unit)), none, some (.pair .str (.pair .str .unit)), some (.pair .str (.pair .str .unit)), some (.pair (.int .i64) (.pair .str .unit)), some (.pair (.int .i64) (.pair .str .unit)), some y9, some y9, none, none, none, some (.int .u64), none, none, none, none, none, some (.pair (.int .u64) (.pair (.int .u64) .unit)), some (.pair (.int .u64) (.pair (.int .u64) .unit)), none, none, none, none, none, none, none, none, none, none, none, none, none, some y7, some y7, none, none, none, none, none, none, none, none, some (.sl 3 (.int .i64)), none, none, none, none, some (.sl 81 (.sl 3 (.int .i64))), none, none, some (.sl 28 y13), none, none, none, none, none, none, none, none, none, none, none, none, none, none, none, some (.sl 128 (.pair (.int .i64) (.pair .str .unit))), none, none, none, none, none, none, none, none, none, none, none, none, none, none, none, none, none, none, none, none, none, some (.pair (.int .i64) (.pair .str .unit)), some (.pair (.int .i64) (.pair .str .unit)), none, none, none, none, none, none, none, none, none, some (.int .u64), none, none, none, none, some (.sl 5 (.int .u8)), none, none, none, none, none, none, none, none, none, none, some (.arr 256 .bool), some (.arr 256 .bool), none, none, none, none, some (.int .u32), none, none, none, none, none, none, none, none, none, none, none, none, some (.arr 256 (.int .u8)), some (.pair (.int .u8) (.pair (.int .u8) .unit)), some (.pair (.int .u8) (.pair (.int .u8) .unit)), some (.arr 16 (.pair (.int .u8) (.pair (.int .u8) .unit))), none, none, none, none, none, none, none, none, some (.int .u8), some (.int .u8), none, some (.int .i32), some (.int .i32), none, none]
def bts : List Nat := [0, 8, 8, 8, 1, 1, 1, 24, 24, 16, 16, 16, 8, 24, 24, 8, 8, 8, 8, 8, 16, 4, 24, 24, 48, 48, 24, 40, 40, 80, 24, 40, 40, 8, 8, 8, 8, 8, 16, 16, 8, 32, 32, 24, 24, 64, 64, 0, 8, 8, 8, 8, 8, 8, 8, 8, 16, 16, 8, 8, 8, 8, 8, 0, 8, 8, 8, 8, 8, 8, 8, 40, 40, 0, 8, 8, 0, 8, 0, 8, 8, 24, 8, 8, 8, 8, 24, 8, 8, 24, 0, 8, 8, 8, 8, 8, 8, 8, 0, 8, 8, 0, 8, 8, 8, 24, 0, 8, 0, 8, 8, 8, 8, 8, 8, 8, 8, 0, 8, 8, 8, 8, 8, 8, 0, 8, 8, 24, 24, 0, 8, 8, 8, 8, 8, 8, 0, 8, 8, 0, 8, 8, 8, 24, 32, 32, 8, 16, 16, 0, 8, 8, 8, 8, 256, 256, 0, 8, 8, 8, 4, 0, 8, 0, 8, 8, 0, 8, 8, 8, 8, 8, 8, 256, 2, 2, 32, 8, 8, 8, 40, 40, 0, 0, 0, 1, 1, 8, 4, 4, 48, 48]
def pts : List Bool := [false, false, false, false, false, false, false, false, false, false, false, false, false, false, false, true, true, true, false, false, false, false, false, false, false, false, false, false, false, false, false, false, false, false, false, false, false, false, false, false, false, false, false, false, false, false, false, false, false, false, false, false, false, false, false, false, false, false, false, false, false, false, false, false, false, false, false, false, false, false, false, false, false, false, false, false, false, false, false, false, false, false, false, false, false, false, false, false, false, false, false, false, false, false, false, false, false, false, false, false, false, false, false, false, false, false, false, false, false, false, false, false, false, false, false, false, false, false, false, false, false, false, false, false, false, false, false, false, false, false, false, false, false, false, false, false, false, false, false, false, false, false, true, false, false, false, false, false, false, false, false, false, false, false, false, false, false, false, false, true, false, false, false, false, false, true, false, false, false, false, false, false, false, false, false, false, false, false, false, false, false, false, false, false, false, false, false, false, false, false, false, false]
def mps : List (TypeId × TypeId × TypeId) := [(92, 9, 4), (135, 3, 4)]
def tab : Tab := ⟨tys, bts, pts, mps⟩
theorem tab_ok : tab.ok Tryz.prog = true := by kernel_rfl
theorem mixed : Tryz.prog.follows .mixedOrders = true := by kernel_rfl
def Tb0 : Funs := Funs.none
theorem Tb0_nat : Tb0.Nat := none_nat
theorem Tb0_owes : ∀ f, Owes Tryz.prog Tb0 f := none_owes
noncomputable abbrev r14_both_c : Code := Tryz.f38.body.getD .skip
def r14_both_E : Env := tab.env (fun _ => []) (fun _ => []) [] []
theorem r14_both_t (R : Type) (kk : Nat)  (K : List SV → Option Box → Option R) : evFn r14_both_E (Tb0 R) kk Tryz.f38 r14_both_c [] none K =
  r14_both_s0 (fun a0 => K [.dat (.sl 81 (.sl 3 (.int .i64))) a0 [[]]] none) := by kernel_rfl
theorem r14_both_eq (R : Type)  (K : List SV → Option Box → Option R) : evFn r14_both_E (Tb0 R) FUEL Tryz.f38 r14_both_c [] none K = (r14_both).bind fun r => K [.dat (.sl 81 (.sl 3 (.int .i64))) r [[]]] none := by
  rw [r14_both_t]
  simp only [r14_both, r14_both_s0_bind, cond_bind, within_bind, none_bind, some_bind, sum_bind, bind_bind, Sum.elim_inl, Sum.elim_inr]
def r14_both_g : Pure := fun R l b K => noBox b (args0 l ((r14_both).bind fun r => K [.dat (.sl 81 (.sl 3 (.int .i64))) r [[]]] none))
theorem r14_both_n : r14_both_g.Nat := fun R S l b F G K h => noBox_nat (args0_nat (bindr_nat fun _ => h _ _))
def Tb1 : Funs := Tb0.add 38 [] r14_both_g
theorem Tb1_nat : Tb1.Nat := add_nat Tb0_nat r14_both_n
theorem Tb1_owes : ∀ f, Owes Tryz.prog Tb1 f := add_owes (E := r14_both_E) (Tab.env_ok tab_ok _ _ _ _) mixed Tb0_nat Tb0_owes (fn := Tryz.f38) (code := r14_both_c) Tryz.func38 (by kernel_rfl) (by kernel_rfl) fun l b r b' h => by
  obtain ⟨rfl, h⟩ := noBox_some h
  obtain ⟨h1, h2⟩ := own0 (E := r14_both_E) rfl h
  exact ⟨FUEL, (h2 _ _ _ _ _ _).trans ((r14_both_eq _  _).trans h1)⟩
noncomputable abbrev r14_Schema_c : Code := Tryz.f19.body.getD .skip
def r14_Schema_E : Env := tab.env (fun i => bif Nat.beq i 4 then [0, 2, 3, 4, 5] else []) (fun i => bif Nat.beq i 4 then [2, 3] else []) [2] [(.int .i64)]
def r14_Schema_h0 (which_0 : Int) (t4 : Zt2) (t5 : Int) (bt2 : Zt16) (bt3 : Zt16) : State := ⟨[.dat (.int .i64) which_0 []]::(uS 1 ([.ptr 3 y13 []]::[.ptr 4 y13 []]::[.dat (.sl 81 (.sl 3 (.int .i64))) t4 [[]]]::[.dat (.int .i64) t5 []]::(uS 52 ([])))), nS 3 ((some ⟨y13, bt2, [[2]]⟩)::(some ⟨y13, bt3, [[2]]⟩)::(nS 54 ([])))⟩
def r14_Schema_x0_0 (bt2 : Zt16) (bt3 : Zt16) : State := ⟨uS 2 ([.ptr 3 y13 []]::[.ptr 4 y13 []]::(uS 54 ([]))), nS 3 ((some ⟨y13, bt2, [[2]]⟩)::(some ⟨y13, bt3, [[2]]⟩)::(nS 54 ([])))⟩
theorem r14_Schema_t (R : Type) (kk : Nat) (which_0 : Int) (K : List SV → Option Box → Option R) : evFn r14_Schema_E (Tb1 R) kk Tryz.f19 r14_Schema_c [.dat (.int .i64) which_0 []] none K =
  r14_Schema_s0 which_0 (fun a0 a1 a2 a3 a4 => loopR (ev r14_Schema_E (Tb1 R) kk (sub [1, 1, 1, 0, 1, 0, 0] r14_Schema_c)) [0, 2, 3, 4, 5] [2, 3] kk (r14_Schema_h0 a0 a1 a2 a3 a4) (kBlock 0 (kSeq r14_Schema_E (Tb1 R) kk (sub [1, 1, 1, 1] r14_Schema_c) (kFin r14_Schema_E Tryz.f19.results.toList none K)))) := by kernel_rfl
theorem r14_Schema_d0 (R : Type) (kk k : Nat) (which_0 : Int) (t4 : Zt2) (t5 : Int) (bt2 : Zt16) (bt3 : Zt16) (K : Ex → State → Option R) : loopR (ev r14_Schema_E (Tb1 R) kk (sub [1, 1, 1, 0, 1, 0, 0] r14_Schema_c)) [0, 2, 3, 4, 5] [2, 3] (k + 1) (r14_Schema_h0 which_0 t4 t5 bt2 bt3) K =
  r14_Schema_s1 which_0 t4 t5 bt2 bt3 (fun a0 a1 a2 a3 a4 => loopR (ev r14_Schema_E (Tb1 R) kk (sub [1, 1, 1, 0, 1, 0, 0] r14_Schema_c)) [0, 2, 3, 4, 5] [2, 3] k (r14_Schema_h0 a0 a1 a2 a3 a4) K) (fun a0 a1 => K (.exit 0) (r14_Schema_x0_0 a0 a1)) := by kernel_rfl
theorem r14_Schema_y0_0 (R : Type) (kk : Nat) (bt2 : Zt16) (bt3 : Zt16) (K : List SV → Option Box → Option R) : (kBlock 0 (kSeq r14_Schema_E (Tb1 R) kk (sub [1, 1, 1, 1] r14_Schema_c) (kFin r14_Schema_E Tryz.f19.results.toList none K))) (.exit 0) (r14_Schema_x0_0 bt2 bt3) =
  r14_Schema_s2 bt2 bt3 (fun a0 => K [.dat y13 a0 [[2]]] none) := by kernel_rfl
theorem r14_Schema_lp0 (R : Type) (k : Nat) (which_0 : Int) (t4 : Zt2) (t5 : Int) (bt2 : Zt16) (bt3 : Zt16) (K : Ex → State → Option R) : loopR (ev r14_Schema_E (Tb1 R) FUEL (sub [1, 1, 1, 0, 1, 0, 0] r14_Schema_c)) [0, 2, 3, 4, 5] [2, 3] k (r14_Schema_h0 which_0 t4 t5 bt2 bt3) K = (r14_Schema_l0 k which_0 t4 t5 bt2 bt3).bind fun e => K (.exit 0) (r14_Schema_x0_0 e.1 e.2) := by
  induction k generalizing which_0 t4 t5 bt2 bt3 with
  | zero => rfl
  | succ k ih =>
    rw [r14_Schema_d0]
    simp only [r14_Schema_l0, r14_Schema_s0_bind, r14_Schema_s1_bind, r14_Schema_s2_bind, ih, cond_bind, within_bind, none_bind, some_bind, sum_bind, bind_bind, Sum.elim_inl, Sum.elim_inr]
theorem r14_Schema_eq (R : Type) (which_0 : Int) (K : List SV → Option Box → Option R) : evFn r14_Schema_E (Tb1 R) FUEL Tryz.f19 r14_Schema_c [.dat (.int .i64) which_0 []] none K = (r14_Schema which_0).bind fun r => K [.dat y13 r [[2]]] none := by
  rw [r14_Schema_t]
  simp only [r14_Schema, r14_Schema_s0_bind, r14_Schema_s1_bind, r14_Schema_s2_bind, r14_Schema_lp0, r14_Schema_y0_0, cond_bind, within_bind, none_bind, some_bind, sum_bind, bind_bind, Sum.elim_inl, Sum.elim_inr]
def r14_Schema_g : Pure := fun R l b K => noBox b (args1 (.int .i64) l (fun x0 => (r14_Schema x0).bind fun r => K [.dat y13 r [[2]]] none))
theorem r14_Schema_n : r14_Schema_g.Nat := fun R S l b F G K h => noBox_nat (args1_nat fun _ => bindr_nat fun _ => h _ _)
def Tb2 : Funs := Tb1.add 19 [(.int .i64)] r14_Schema_g
theorem Tb2_nat : Tb2.Nat := add_nat Tb1_nat r14_Schema_n
theorem Tb2_owes : ∀ f, Owes Tryz.prog Tb2 f := add_owes (E := r14_Schema_E) (Tab.env_ok tab_ok _ _ _ _) mixed Tb1_nat Tb1_owes (fn := Tryz.f19) (code := r14_Schema_c) Tryz.func19 (by kernel_rfl) (by kernel_rfl) fun l b r b' h => by
  obtain ⟨rfl, h⟩ := noBox_some h
  obtain ⟨x0, h1, h2⟩ := own1 (E := r14_Schema_E) rfl h
  exact ⟨FUEL, (h2 _ _ _ _ _ _).trans ((r14_Schema_eq _ x0 _).trans h1)⟩
noncomputable abbrev r14_Lossless_c : Code := Tryz.f34.body.getD .skip
def r14_Lossless_E : Env := tab.env (fun _ => []) (fun _ => []) [] []
theorem r14_Lossless_t (R : Type) (kk : Nat)  (K : List SV → Option Box → Option R) : evFn r14_Lossless_E (Tb2 R) kk Tryz.f34 r14_Lossless_c [] none K =
  r14_Lossless_s0 (fun a0 => K [.dat (.sl 3 (.int .i64)) a0 [[]]] none) := by kernel_rfl
theorem r14_Lossless_eq (R : Type)  (K : List SV → Option Box → Option R) : evFn r14_Lossless_E (Tb2 R) FUEL Tryz.f34 r14_Lossless_c [] none K = (r14_Lossless).bind fun r => K [.dat (.sl 3 (.int .i64)) r [[]]] none := by
  rw [r14_Lossless_t]
  simp only [r14_Lossless, r14_Lossless_s0_bind, cond_bind, within_bind, none_bind, some_bind, sum_bind, bind_bind, Sum.elim_inl, Sum.elim_inr]
def r14_Lossless_g : Pure := fun R l b K => noBox b (args0 l ((r14_Lossless).bind fun r => K [.dat (.sl 3 (.int .i64)) r [[]]] none))
theorem r14_Lossless_n : r14_Lossless_g.Nat := fun R S l b F G K h => noBox_nat (args0_nat (bindr_nat fun _ => h _ _))
def Tb3 : Funs := Tb2.add 34 [] r14_Lossless_g
theorem Tb3_nat : Tb3.Nat := add_nat Tb2_nat r14_Lossless_n
theorem Tb3_owes : ∀ f, Owes Tryz.prog Tb3 f := add_owes (E := r14_Lossless_E) (Tab.env_ok tab_ok _ _ _ _) mixed Tb2_nat Tb2_owes (fn := Tryz.f34) (code := r14_Lossless_c) Tryz.func34 (by kernel_rfl) (by kernel_rfl) fun l b r b' h => by
  obtain ⟨rfl, h⟩ := noBox_some h
  obtain ⟨h1, h2⟩ := own0 (E := r14_Lossless_E) rfl h
  exact ⟨FUEL, (h2 _ _ _ _ _ _).trans ((r14_Lossless_eq _  _).trans h1)⟩
noncomputable abbrev w22_lossless_c : Code := Tryz.f13.body.getD .skip
def w22_lossless_E : Env := tab.env (fun i => bif Nat.beq i 3 then [0, 1, 9, 10, 11] else []) (fun i => bif Nat.beq i 3 then [0, 1] else []) [0] []
def w22_lossless_h0 (t9 : (List Int)) (t10 : Int) (t11 : Int) (bt0 : Zt22) (bt1 : Zt22) : State := ⟨[.ptr 1 y14 []]::[.ptr 2 y14 []]::(uS 7 ([.dat (.sl 3 (.int .i64)) t9 [[]]]::[.dat (.int .i64) t10 []]::[.dat (.int .i64) t11 []]::(uS 16 ([])))), nS 1 ((some ⟨y14, bt0, [[0], [1]]⟩)::(some ⟨y14, bt1, [[0], [1]]⟩)::(nS 26 ([])))⟩
def w22_lossless_x0_0 (bt0 : Zt22) (bt1 : Zt22) : State := ⟨[.ptr 1 y14 []]::[.ptr 2 y14 []]::(uS 26 ([])), nS 1 ((some ⟨y14, bt0, [[0], [1]]⟩)::(some ⟨y14, bt1, [[0], [1]]⟩)::(nS 26 ([])))⟩
theorem w22_lossless_t (R : Type) (kk : Nat)  (K : List SV → Option Box → Option R) : evFn w22_lossless_E (Tb3 R) kk Tryz.f13 w22_lossless_c [] none K =
  w22_lossless_s0 (fun a0 a1 a2 a3 a4 => loopR (ev w22_lossless_E (Tb3 R) kk (sub [1, 1, 0, 1, 0, 0] w22_lossless_c)) [0, 1, 9, 10, 11] [0, 1] kk (w22_lossless_h0 a0 a1 a2 a3 a4) (kBlock 0 (kSeq w22_lossless_E (Tb3 R) kk (sub [1, 1, 1] w22_lossless_c) (kFin w22_lossless_E Tryz.f13.results.toList none K)))) := by kernel_rfl
theorem w22_lossless_d0 (R : Type) (kk k : Nat) (t9 : (List Int)) (t10 : Int) (t11 : Int) (bt0 : Zt22) (bt1 : Zt22) (K : Ex → State → Option R) : loopR (ev w22_lossless_E (Tb3 R) kk (sub [1, 1, 0, 1, 0, 0] w22_lossless_c)) [0, 1, 9, 10, 11] [0, 1] (k + 1) (w22_lossless_h0 t9 t10 t11 bt0 bt1) K =
  w22_lossless_s1 t9 t10 t11 bt0 bt1 (fun a0 a1 a2 a3 a4 => loopR (ev w22_lossless_E (Tb3 R) kk (sub [1, 1, 0, 1, 0, 0] w22_lossless_c)) [0, 1, 9, 10, 11] [0, 1] k (w22_lossless_h0 a0 a1 a2 a3 a4) K) (fun a0 a1 => K (.exit 0) (w22_lossless_x0_0 a0 a1)) := by kernel_rfl
theorem w22_lossless_y0_0 (R : Type) (kk : Nat) (bt0 : Zt22) (bt1 : Zt22) (K : List SV → Option Box → Option R) : (kBlock 0 (kSeq w22_lossless_E (Tb3 R) kk (sub [1, 1, 1] w22_lossless_c) (kFin w22_lossless_E Tryz.f13.results.toList none K))) (.exit 0) (w22_lossless_x0_0 bt0 bt1) =
  w22_lossless_s2 bt0 bt1 (fun a0 => K [.dat y14 a0 [[0], [1]]] none) := by kernel_rfl
theorem w22_lossless_lp0 (R : Type) (k : Nat) (t9 : (List Int)) (t10 : Int) (t11 : Int) (bt0 : Zt22) (bt1 : Zt22) (K : Ex → State → Option R) : loopR (ev w22_lossless_E (Tb3 R) FUEL (sub [1, 1, 0, 1, 0, 0] w22_lossless_c)) [0, 1, 9, 10, 11] [0, 1] k (w22_lossless_h0 t9 t10 t11 bt0 bt1) K = (w22_lossless_l0 k t9 t10 t11 bt0 bt1).bind fun e => K (.exit 0) (w22_lossless_x0_0 e.1 e.2) := by
  induction k generalizing t9 t10 t11 bt0 bt1 with
  | zero => rfl
  | succ k ih =>
    rw [w22_lossless_d0]
    simp only [w22_lossless_l0, w22_lossless_s0_bind, w22_lossless_s1_bind, w22_lossless_s2_bind, ih, cond_bind, within_bind, none_bind, some_bind, sum_bind, bind_bind, Sum.elim_inl, Sum.elim_inr]
theorem w22_lossless_eq (R : Type)  (K : List SV → Option Box → Option R) : evFn w22_lossless_E (Tb3 R) FUEL Tryz.f13 w22_lossless_c [] none K = (w22_lossless).bind fun r => K [.dat y14 r [[0], [1]]] none := by
  rw [w22_lossless_t]
  simp only [w22_lossless, w22_lossless_s0_bind, w22_lossless_s1_bind, w22_lossless_s2_bind, w22_lossless_lp0, w22_lossless_y0_0, cond_bind, within_bind, none_bind, some_bind, sum_bind, bind_bind, Sum.elim_inl, Sum.elim_inr]
def w22_lossless_g : Pure := fun R l b K => noBox b (args0 l ((w22_lossless).bind fun r => K [.dat y14 r [[0], [1]]] none))
theorem w22_lossless_n : w22_lossless_g.Nat := fun R S l b F G K h => noBox_nat (args0_nat (bindr_nat fun _ => h _ _))
def Tb4 : Funs := Tb3.add 13 [] w22_lossless_g
theorem Tb4_nat : Tb4.Nat := add_nat Tb3_nat w22_lossless_n
theorem Tb4_owes : ∀ f, Owes Tryz.prog Tb4 f := add_owes (E := w22_lossless_E) (Tab.env_ok tab_ok _ _ _ _) mixed Tb3_nat Tb3_owes (fn := Tryz.f13) (code := w22_lossless_c) Tryz.func13 (by kernel_rfl) (by kernel_rfl) fun l b r b' h => by
  obtain ⟨rfl, h⟩ := noBox_some h
  obtain ⟨h1, h2⟩ := own0 (E := w22_lossless_E) rfl h
  exact ⟨FUEL, (h2 _ _ _ _ _ _).trans ((w22_lossless_eq _  _).trans h1)⟩
noncomputable abbrev codes_Turn_c : Code := Tryz.f35.body.getD .skip
def codes_Turn_E : Env := tab.env (fun i => bif Nat.beq i 3 then [3, 9, 10, 11] else []) (fun i => bif Nat.beq i 3 then [3] else []) [] [(.sl 42 (.pair .str (.pair .str .unit)))]
def codes_Turn_h0 (t3 : Zt12) (t9 : Zt12) (t10 : Int) (t11 : Int) : State := ⟨uS 3 ([.dat (.sl 42 (.pair .str (.pair .str .unit))) t3 [[]]]::(uS 5 ([.dat (.sl 42 (.pair .str (.pair .str .unit))) t9 []]::[.dat (.int .i64) t10 []]::[.dat (.int .i64) t11 []]::(uS 13 ([]))))), nS 26 []⟩
def codes_Turn_x0_0 (t3 : Zt12) : State := ⟨uS 3 ([.dat (.sl 42 (.pair .str (.pair .str .unit))) t3 [[]]]::(uS 21 ([]))), nS 26 []⟩
theorem codes_Turn_t (R : Type) (kk : Nat) (l_0 : Zt12) (K : List SV → Option Box → Option R) : evFn codes_Turn_E (Tb4 R) kk Tryz.f35 codes_Turn_c [.dat (.sl 42 (.pair .str (.pair .str .unit))) l_0 []] none K =
  codes_Turn_s0 l_0 (fun a0 a1 a2 a3 => loopR (ev codes_Turn_E (Tb4 R) kk (sub [1, 1, 0, 1, 0, 0] codes_Turn_c)) [3, 9, 10, 11] [3] kk (codes_Turn_h0 a0 a1 a2 a3) (kBlock 0 (kSeq codes_Turn_E (Tb4 R) kk (sub [1, 1, 1] codes_Turn_c) (kFin codes_Turn_E Tryz.f35.results.toList none K)))) := by kernel_rfl
theorem codes_Turn_d0 (R : Type) (kk k : Nat) (t3 : Zt12) (t9 : Zt12) (t10 : Int) (t11 : Int) (K : Ex → State → Option R) : loopR (ev codes_Turn_E (Tb4 R) kk (sub [1, 1, 0, 1, 0, 0] codes_Turn_c)) [3, 9, 10, 11] [3] (k + 1) (codes_Turn_h0 t3 t9 t10 t11) K =
  codes_Turn_s1 t3 t9 t10 t11 (fun a0 a1 a2 a3 => loopR (ev codes_Turn_E (Tb4 R) kk (sub [1, 1, 0, 1, 0, 0] codes_Turn_c)) [3, 9, 10, 11] [3] k (codes_Turn_h0 a0 a1 a2 a3) K) (fun a0 => K (.exit 0) (codes_Turn_x0_0 a0)) := by kernel_rfl
theorem codes_Turn_y0_0 (R : Type) (kk : Nat) (t3 : Zt12) (K : List SV → Option Box → Option R) : (kBlock 0 (kSeq codes_Turn_E (Tb4 R) kk (sub [1, 1, 1] codes_Turn_c) (kFin codes_Turn_E Tryz.f35.results.toList none K))) (.exit 0) (codes_Turn_x0_0 t3) =
  codes_Turn_s2 t3 (fun a0 => K [.dat (.sl 42 (.pair .str (.pair .str .unit))) a0 []] none) := by kernel_rfl
theorem codes_Turn_lp0 (R : Type) (k : Nat) (t3 : Zt12) (t9 : Zt12) (t10 : Int) (t11 : Int) (K : Ex → State → Option R) : loopR (ev codes_Turn_E (Tb4 R) FUEL (sub [1, 1, 0, 1, 0, 0] codes_Turn_c)) [3, 9, 10, 11] [3] k (codes_Turn_h0 t3 t9 t10 t11) K = (codes_Turn_l0 k t3 t9 t10 t11).bind fun e => K (.exit 0) (codes_Turn_x0_0 e) := by
  induction k generalizing t3 t9 t10 t11 with
  | zero => rfl
  | succ k ih =>
    rw [codes_Turn_d0]
    simp only [codes_Turn_l0, codes_Turn_s0_bind, codes_Turn_s1_bind, codes_Turn_s2_bind, ih, cond_bind, within_bind, none_bind, some_bind, sum_bind, bind_bind, Sum.elim_inl, Sum.elim_inr]
theorem codes_Turn_eq (R : Type) (l_0 : Zt12) (K : List SV → Option Box → Option R) : evFn codes_Turn_E (Tb4 R) FUEL Tryz.f35 codes_Turn_c [.dat (.sl 42 (.pair .str (.pair .str .unit))) l_0 []] none K = (codes_Turn l_0).bind fun r => K [.dat (.sl 42 (.pair .str (.pair .str .unit))) r []] none := by
  rw [codes_Turn_t]
  simp only [codes_Turn, codes_Turn_s0_bind, codes_Turn_s1_bind, codes_Turn_s2_bind, codes_Turn_lp0, codes_Turn_y0_0, cond_bind, within_bind, none_bind, some_bind, sum_bind, bind_bind, Sum.elim_inl, Sum.elim_inr]
def codes_Turn_g : Pure := fun R l b K => noBox b (args1 (.sl 42 (.pair .str (.pair .str .unit))) l (fun x0 => (codes_Turn x0).bind fun r => K [.dat (.sl 42 (.pair .str (.pair .str .unit))) r []] none))
theorem codes_Turn_n : codes_Turn_g.Nat := fun R S l b F G K h => noBox_nat (args1_nat fun _ => bindr_nat fun _ => h _ _)
def Tb5 : Funs := Tb4.add 35 [(.sl 42 (.pair .str (.pair .str .unit)))] codes_Turn_g
theorem Tb5_nat : Tb5.Nat := add_nat Tb4_nat codes_Turn_n
theorem Tb5_owes : ∀ f, Owes Tryz.prog Tb5 f := add_owes (E := codes_Turn_E) (Tab.env_ok tab_ok _ _ _ _) mixed Tb4_nat Tb4_owes (fn := Tryz.f35) (code := codes_Turn_c) Tryz.func35 (by kernel_rfl) (by kernel_rfl) fun l b r b' h => by
  obtain ⟨rfl, h⟩ := noBox_some h
  obtain ⟨x0, h1, h2⟩ := own1 (E := codes_Turn_E) rfl h
  exact ⟨FUEL, (h2 _ _ _ _ _ _).trans ((codes_Turn_eq _ x0 _).trans h1)⟩
noncomputable abbrev invert_Turn_c : Code := Tryz.f15.body.getD .skip
def invert_Turn_E : Env := tab.env (fun i => bif Nat.beq i 3 then [2, 3, 11, 12, 13] else []) (fun i => bif Nat.beq i 3 then [2, 3] else []) [2] [y14]
def invert_Turn_h0 (t11 : Zt20) (t12 : Int) (t13 : Int) (bt2 : Zt22) (bt3 : Zt22) : State := ⟨uS 2 ([.ptr 3 y14 []]::[.ptr 4 y14 []]::(uS 7 ([.dat (.sl 46 y9) t11 []]::[.dat (.int .i64) t12 []]::[.dat (.int .i64) t13 []]::(uS 22 ([]))))), nS 3 ((some ⟨y14, bt2, [[0], [1]]⟩)::(some ⟨y14, bt3, [[1]]⟩)::(nS 32 ([])))⟩
def invert_Turn_x0_0 (bt2 : Zt22) (bt3 : Zt22) : State := ⟨uS 2 ([.ptr 3 y14 []]::[.ptr 4 y14 []]::(uS 32 ([]))), nS 3 ((some ⟨y14, bt2, [[0], [1]]⟩)::(some ⟨y14, bt3, [[1]]⟩)::(nS 32 ([])))⟩
theorem invert_Turn_t (R : Type) (kk : Nat) (m_0 : Zt22) (K : List SV → Option Box → Option R) : evFn invert_Turn_E (Tb5 R) kk Tryz.f15 invert_Turn_c [.dat y14 m_0 []] none K =
  invert_Turn_s0 m_0 (fun a0 a1 a2 a3 a4 => loopR (ev invert_Turn_E (Tb5 R) kk (sub [1, 1, 0, 1, 0, 0] invert_Turn_c)) [2, 3, 11, 12, 13] [2, 3] kk (invert_Turn_h0 a0 a1 a2 a3 a4) (kBlock 0 (kSeq invert_Turn_E (Tb5 R) kk (sub [1, 1, 1] invert_Turn_c) (kFin invert_Turn_E Tryz.f15.results.toList none K)))) := by kernel_rfl
theorem invert_Turn_d0 (R : Type) (kk k : Nat) (t11 : Zt20) (t12 : Int) (t13 : Int) (bt2 : Zt22) (bt3 : Zt22) (K : Ex → State → Option R) : loopR (ev invert_Turn_E (Tb5 R) kk (sub [1, 1, 0, 1, 0, 0] invert_Turn_c)) [2, 3, 11, 12, 13] [2, 3] (k + 1) (invert_Turn_h0 t11 t12 t13 bt2 bt3) K =
  invert_Turn_s1 t11 t12 t13 bt2 bt3 (fun a0 a1 a2 a3 a4 => loopR (ev invert_Turn_E (Tb5 R) kk (sub [1, 1, 0, 1, 0, 0] invert_Turn_c)) [2, 3, 11, 12, 13] [2, 3] k (invert_Turn_h0 a0 a1 a2 a3 a4) K) (fun a0 a1 => K (.exit 0) (invert_Turn_x0_0 a0 a1)) := by kernel_rfl
theorem invert_Turn_y0_0 (R : Type) (kk : Nat) (bt2 : Zt22) (bt3 : Zt22) (K : List SV → Option Box → Option R) : (kBlock 0 (kSeq invert_Turn_E (Tb5 R) kk (sub [1, 1, 1] invert_Turn_c) (kFin invert_Turn_E Tryz.f15.results.toList none K))) (.exit 0) (invert_Turn_x0_0 bt2 bt3) =
  invert_Turn_s2 bt2 bt3 (fun a0 => K [.dat y14 a0 [[1]]] none) := by kernel_rfl
theorem invert_Turn_lp0 (R : Type) (k : Nat) (t11 : Zt20) (t12 : Int) (t13 : Int) (bt2 : Zt22) (bt3 : Zt22) (K : Ex → State → Option R) : loopR (ev invert_Turn_E (Tb5 R) FUEL (sub [1, 1, 0, 1, 0, 0] invert_Turn_c)) [2, 3, 11, 12, 13] [2, 3] k (invert_Turn_h0 t11 t12 t13 bt2 bt3) K = (invert_Turn_l0 k t11 t12 t13 bt2 bt3).bind fun e => K (.exit 0) (invert_Turn_x0_0 e.1 e.2) := by
  induction k generalizing t11 t12 t13 bt2 bt3 with
  | zero => rfl
  | succ k ih =>
    rw [invert_Turn_d0]
    simp only [invert_Turn_l0, invert_Turn_s0_bind, invert_Turn_s1_bind, invert_Turn_s2_bind, ih, cond_bind, within_bind, none_bind, some_bind, sum_bind, bind_bind, Sum.elim_inl, Sum.elim_inr]
theorem invert_Turn_eq (R : Type) (m_0 : Zt22) (K : List SV → Option Box → Option R) : evFn invert_Turn_E (Tb5 R) FUEL Tryz.f15 invert_Turn_c [.dat y14 m_0 []] none K = (invert_Turn m_0).bind fun r => K [.dat y14 r [[1]]] none := by
  rw [invert_Turn_t]
  simp only [invert_Turn, invert_Turn_s0_bind, invert_Turn_s1_bind, invert_Turn_s2_bind, invert_Turn_lp0, invert_Turn_y0_0, cond_bind, within_bind, none_bind, some_bind, sum_bind, bind_bind, Sum.elim_inl, Sum.elim_inr]
def invert_Turn_g : Pure := fun R l b K => noBox b (args1 y14 l (fun x0 => (invert_Turn x0).bind fun r => K [.dat y14 r [[1]]] none))
theorem invert_Turn_n : invert_Turn_g.Nat := fun R S l b F G K h => noBox_nat (args1_nat fun _ => bindr_nat fun _ => h _ _)
def Tb6 : Funs := Tb5.add 15 [y14] invert_Turn_g
theorem Tb6_nat : Tb6.Nat := add_nat Tb5_nat invert_Turn_n
theorem Tb6_owes : ∀ f, Owes Tryz.prog Tb6 f := add_owes (E := invert_Turn_E) (Tab.env_ok tab_ok _ _ _ _) mixed Tb5_nat Tb5_owes (fn := Tryz.f15) (code := invert_Turn_c) Tryz.func15 (by kernel_rfl) (by kernel_rfl) fun l b r b' h => by
  obtain ⟨rfl, h⟩ := noBox_some h
  obtain ⟨x0, h1, h2⟩ := own1 (E := invert_Turn_E) rfl h
  exact ⟨FUEL, (h2 _ _ _ _ _ _).trans ((invert_Turn_eq _ x0 _).trans h1)⟩
noncomputable abbrev class_sets_c : Code := Tryz.f83.body.getD .skip
def class_sets_E : Env := tab.env (fun _ => []) (fun _ => []) [] [(.int .i64)]
theorem class_sets_t (R : Type) (kk : Nat) (class_0 : Int) (K : List SV → Option Box → Option R) : evFn class_sets_E (Tb6 R) kk Tryz.f83 class_sets_c [.dat (.int .i64) class_0 []] none K =
  class_sets_s0 class_0 (fun a0 => K [.dat (.int .i64) a0 []] none) := by kernel_rfl
theorem class_sets_eq (R : Type) (class_0 : Int) (K : List SV → Option Box → Option R) : evFn class_sets_E (Tb6 R) FUEL Tryz.f83 class_sets_c [.dat (.int .i64) class_0 []] none K = (class_sets class_0).bind fun r => K [.dat (.int .i64) r []] none := by
  rw [class_sets_t]
  simp only [class_sets, class_sets_s0_bind, cond_bind, within_bind, none_bind, some_bind, sum_bind, bind_bind, Sum.elim_inl, Sum.elim_inr]
def class_sets_g : Pure := fun R l b K => noBox b (args1 (.int .i64) l (fun x0 => (class_sets x0).bind fun r => K [.dat (.int .i64) r []] none))
theorem class_sets_n : class_sets_g.Nat := fun R S l b F G K h => noBox_nat (args1_nat fun _ => bindr_nat fun _ => h _ _)
def Tb7 : Funs := Tb6.add 83 [(.int .i64)] class_sets_g
theorem Tb7_nat : Tb7.Nat := add_nat Tb6_nat class_sets_n
theorem Tb7_owes : ∀ f, Owes Tryz.prog Tb7 f := add_owes (E := class_sets_E) (Tab.env_ok tab_ok _ _ _ _) mixed Tb6_nat Tb6_owes (fn := Tryz.f83) (code := class_sets_c) Tryz.func83 (by kernel_rfl) (by kernel_rfl) fun l b r b' h => by
  obtain ⟨rfl, h⟩ := noBox_some h
  obtain ⟨x0, h1, h2⟩ := own1 (E := class_sets_E) rfl h
  exact ⟨FUEL, (h2 _ _ _ _ _ _).trans ((class_sets_eq _ x0 _).trans h1)⟩
noncomputable abbrev class_Known_c : Code := Tryz.f79.body.getD .skip
def class_Known_E : Env := tab.env (fun _ => []) (fun _ => []) [] [(.int .i64)]
theorem class_Known_t (R : Type) (kk : Nat) (class_0 : Int) (K : List SV → Option Box → Option R) : evFn class_Known_E (Tb7 R) kk Tryz.f79 class_Known_c [.dat (.int .i64) class_0 []] none K =
  class_Known_s0 class_0 (fun a0 => K [.dat .bool a0 []] none) := by kernel_rfl
theorem class_Known_eq (R : Type) (class_0 : Int) (K : List SV → Option Box → Option R) : evFn class_Known_E (Tb7 R) FUEL Tryz.f79 class_Known_c [.dat (.int .i64) class_0 []] none K = (class_Known class_0).bind fun r => K [.dat .bool r []] none := by
  rw [class_Known_t]
  simp only [class_Known, class_Known_s0_bind, cond_bind, within_bind, none_bind, some_bind, sum_bind, bind_bind, Sum.elim_inl, Sum.elim_inr]
def class_Known_g : Pure := fun R l b K => noBox b (args1 (.int .i64) l (fun x0 => (class_Known x0).bind fun r => K [.dat .bool r []] none))
theorem class_Known_n : class_Known_g.Nat := fun R S l b F G K h => noBox_nat (args1_nat fun _ => bindr_nat fun _ => h _ _)
def Tb8 : Funs := Tb7.add 79 [(.int .i64)] class_Known_g
theorem Tb8_nat : Tb8.Nat := add_nat Tb7_nat class_Known_n
theorem Tb8_owes : ∀ f, Owes Tryz.prog Tb8 f := add_owes (E := class_Known_E) (Tab.env_ok tab_ok _ _ _ _) mixed Tb7_nat Tb7_owes (fn := Tryz.f79) (code := class_Known_c) Tryz.func79 (by kernel_rfl) (by kernel_rfl) fun l b r b' h => by
  obtain ⟨rfl, h⟩ := noBox_some h
  obtain ⟨x0, h1, h2⟩ := own1 (E := class_Known_E) rfl h
  exact ⟨FUEL, (h2 _ _ _ _ _ _).trans ((class_Known_eq _ x0 _).trans h1)⟩
noncomputable abbrev prefix_width_c : Code := Tryz.f100.body.getD .skip
def prefix_width_E : Env := tab.env (fun _ => []) (fun _ => []) [] [(.int .i64)]
theorem prefix_width_t (R : Type) (kk : Nat) (form_0 : Int) (K : List SV → Option Box → Option R) : evFn prefix_width_E (Tb8 R) kk Tryz.f100 prefix_width_c [.dat (.int .i64) form_0 []] none K =
  prefix_width_s0 form_0 (fun a0 => K [.dat (.int .i64) a0 []] none) := by kernel_rfl
theorem prefix_width_eq (R : Type) (form_0 : Int) (K : List SV → Option Box → Option R) : evFn prefix_width_E (Tb8 R) FUEL Tryz.f100 prefix_width_c [.dat (.int .i64) form_0 []] none K = (prefix_width form_0).bind fun r => K [.dat (.int .i64) r []] none := by
  rw [prefix_width_t]
  simp only [prefix_width, prefix_width_s0_bind, cond_bind, within_bind, none_bind, some_bind, sum_bind, bind_bind, Sum.elim_inl, Sum.elim_inr]
def prefix_width_g : Pure := fun R l b K => noBox b (args1 (.int .i64) l (fun x0 => (prefix_width x0).bind fun r => K [.dat (.int .i64) r []] none))
theorem prefix_width_n : prefix_width_g.Nat := fun R S l b F G K h => noBox_nat (args1_nat fun _ => bindr_nat fun _ => h _ _)
def Tb9 : Funs := Tb8.add 100 [(.int .i64)] prefix_width_g
theorem Tb9_nat : Tb9.Nat := add_nat Tb8_nat prefix_width_n
theorem Tb9_owes : ∀ f, Owes Tryz.prog Tb9 f := add_owes (E := prefix_width_E) (Tab.env_ok tab_ok _ _ _ _) mixed Tb8_nat Tb8_owes (fn := Tryz.f100) (code := prefix_width_c) Tryz.func100 (by kernel_rfl) (by kernel_rfl) fun l b r b' h => by
  obtain ⟨rfl, h⟩ := noBox_some h
  obtain ⟨x0, h1, h2⟩ := own1 (E := prefix_width_E) rfl h
  exact ⟨FUEL, (h2 _ _ _ _ _ _).trans ((prefix_width_eq _ x0 _).trans h1)⟩
noncomputable abbrev prefix_Most_c : Code := Tryz.f80.body.getD .skip
def prefix_Most_E : Env := tab.env (fun i => bif Nat.beq i 3 then [3, 5, 6] else []) (fun i => bif Nat.beq i 3 then [3] else []) [] [(.int .i64)]
def prefix_Most_h0 (t3 : Int) (t5 : Int) (t6 : Int) : State := ⟨uS 3 ([.dat (.int .i64) t3 []]::(uS 1 ([.dat (.int .i64) t5 []]::[.dat (.int .i64) t6 []]::(uS 6 ([]))))), nS 14 []⟩
def prefix_Most_x0_0 (t3 : Int) : State := ⟨uS 3 ([.dat (.int .i64) t3 []]::(uS 9 ([]))), nS 14 []⟩
theorem prefix_Most_t (R : Type) (kk : Nat) (form_0 : Int) (K : List SV → Option Box → Option R) : evFn prefix_Most_E (Tb9 R) kk Tryz.f80 prefix_Most_c [.dat (.int .i64) form_0 []] none K =
  prefix_Most_s0 form_0 (fun a0 a1 a2 => loopR (ev prefix_Most_E (Tb9 R) kk (sub [1, 1, 0, 1, 0, 0] prefix_Most_c)) [3, 5, 6] [3] kk (prefix_Most_h0 a0 a1 a2) (kBlock 0 (kSeq prefix_Most_E (Tb9 R) kk (sub [1, 1, 1] prefix_Most_c) (kFin prefix_Most_E Tryz.f80.results.toList none K)))) := by kernel_rfl
theorem prefix_Most_d0 (R : Type) (kk k : Nat) (t3 : Int) (t5 : Int) (t6 : Int) (K : Ex → State → Option R) : loopR (ev prefix_Most_E (Tb9 R) kk (sub [1, 1, 0, 1, 0, 0] prefix_Most_c)) [3, 5, 6] [3] (k + 1) (prefix_Most_h0 t3 t5 t6) K =
  prefix_Most_s1 t3 t5 t6 (fun a0 a1 a2 => loopR (ev prefix_Most_E (Tb9 R) kk (sub [1, 1, 0, 1, 0, 0] prefix_Most_c)) [3, 5, 6] [3] k (prefix_Most_h0 a0 a1 a2) K) (fun a0 => K (.exit 0) (prefix_Most_x0_0 a0)) := by kernel_rfl
theorem prefix_Most_y0_0 (R : Type) (kk : Nat) (t3 : Int) (K : List SV → Option Box → Option R) : (kBlock 0 (kSeq prefix_Most_E (Tb9 R) kk (sub [1, 1, 1] prefix_Most_c) (kFin prefix_Most_E Tryz.f80.results.toList none K))) (.exit 0) (prefix_Most_x0_0 t3) =
  prefix_Most_s2 t3 (fun a0 => K [.dat (.int .i64) a0 []] none) := by kernel_rfl
theorem prefix_Most_lp0 (R : Type) (k : Nat) (t3 : Int) (t5 : Int) (t6 : Int) (K : Ex → State → Option R) : loopR (ev prefix_Most_E (Tb9 R) FUEL (sub [1, 1, 0, 1, 0, 0] prefix_Most_c)) [3, 5, 6] [3] k (prefix_Most_h0 t3 t5 t6) K = (prefix_Most_l0 k t3 t5 t6).bind fun e => K (.exit 0) (prefix_Most_x0_0 e) := by
  induction k generalizing t3 t5 t6 with
  | zero => rfl
  | succ k ih =>
    rw [prefix_Most_d0]
    simp only [prefix_Most_l0, prefix_Most_s0_bind, prefix_Most_s1_bind, prefix_Most_s2_bind, ih, cond_bind, within_bind, none_bind, some_bind, sum_bind, bind_bind, Sum.elim_inl, Sum.elim_inr]
theorem prefix_Most_eq (R : Type) (form_0 : Int) (K : List SV → Option Box → Option R) : evFn prefix_Most_E (Tb9 R) FUEL Tryz.f80 prefix_Most_c [.dat (.int .i64) form_0 []] none K = (prefix_Most form_0).bind fun r => K [.dat (.int .i64) r []] none := by
  rw [prefix_Most_t]
  simp only [prefix_Most, prefix_Most_s0_bind, prefix_Most_s1_bind, prefix_Most_s2_bind, prefix_Most_lp0, prefix_Most_y0_0, cond_bind, within_bind, none_bind, some_bind, sum_bind, bind_bind, Sum.elim_inl, Sum.elim_inr]
def prefix_Most_g : Pure := fun R l b K => noBox b (args1 (.int .i64) l (fun x0 => (prefix_Most x0).bind fun r => K [.dat (.int .i64) r []] none))
theorem prefix_Most_n : prefix_Most_g.Nat := fun R S l b F G K h => noBox_nat (args1_nat fun _ => bindr_nat fun _ => h _ _)
def Tb10 : Funs := Tb9.add 80 [(.int .i64)] prefix_Most_g
theorem Tb10_nat : Tb10.Nat := add_nat Tb9_nat prefix_Most_n
theorem Tb10_owes : ∀ f, Owes Tryz.prog Tb10 f := add_owes (E := prefix_Most_E) (Tab.env_ok tab_ok _ _ _ _) mixed Tb9_nat Tb9_owes (fn := Tryz.f80) (code := prefix_Most_c) Tryz.func80 (by kernel_rfl) (by kernel_rfl) fun l b r b' h => by
  obtain ⟨rfl, h⟩ := noBox_some h
  obtain ⟨x0, h1, h2⟩ := own1 (E := prefix_Most_E) rfl h
  exact ⟨FUEL, (h2 _ _ _ _ _ _).trans ((prefix_Most_eq _ x0 _).trans h1)⟩
noncomputable abbrev spec_Check_c : Code := Tryz.f62.body.getD .skip
def spec_Check_E : Env := tab.env (fun _ => []) (fun _ => []) [] [y7]
theorem spec_Check_t (R : Type) (kk : Nat) (s_0 : Zt11) (K : List SV → Option Box → Option R) : evFn spec_Check_E (Tb10 R) kk Tryz.f62 spec_Check_c [.dat y7 s_0 []] none K =
  spec_Check_s0 s_0 (fun a0 => K [.dat (.int .i64) a0 []] none) := by kernel_rfl
theorem spec_Check_eq (R : Type) (s_0 : Zt11) (K : List SV → Option Box → Option R) : evFn spec_Check_E (Tb10 R) FUEL Tryz.f62 spec_Check_c [.dat y7 s_0 []] none K = (spec_Check s_0).bind fun r => K [.dat (.int .i64) r []] none := by
  rw [spec_Check_t]
  simp only [spec_Check, spec_Check_s0_bind, cond_bind, within_bind, none_bind, some_bind, sum_bind, bind_bind, Sum.elim_inl, Sum.elim_inr]
def spec_Check_g : Pure := fun R l b K => noBox b (args1 y7 l (fun x0 => (spec_Check x0).bind fun r => K [.dat (.int .i64) r []] none))
theorem spec_Check_n : spec_Check_g.Nat := fun R S l b F G K h => noBox_nat (args1_nat fun _ => bindr_nat fun _ => h _ _)
def Tb11 : Funs := Tb10.add 62 [y7] spec_Check_g
theorem Tb11_nat : Tb11.Nat := add_nat Tb10_nat spec_Check_n
theorem Tb11_owes : ∀ f, Owes Tryz.prog Tb11 f := add_owes (E := spec_Check_E) (Tab.env_ok tab_ok _ _ _ _) mixed Tb10_nat Tb10_owes (fn := Tryz.f62) (code := spec_Check_c) Tryz.func62 (by kernel_rfl) (by kernel_rfl) fun l b r b' h => by
  obtain ⟨rfl, h⟩ := noBox_some h
  obtain ⟨x0, h1, h2⟩ := own1 (E := spec_Check_E) rfl h
  exact ⟨FUEL, (h2 _ _ _ _ _ _).trans ((spec_Check_eq _ x0 _).trans h1)⟩
noncomputable abbrev schema_Check_c : Code := Tryz.f40.body.getD .skip
def schema_Check_E : Env := tab.env (fun i => bif Nat.beq i 6 then [1, 26, 27, 28] else []) (fun i => bif Nat.beq i 6 then [2, 3] else []) [] [y13]
def schema_Check_h0 (t26 : Zt13) (t27 : Int) (t28 : Int) (bt1 : Zt16) : State := ⟨uS 1 ([.ptr 2 y13 []]::(uS 24 ([.dat (.sl 72 y7) t26 []]::[.dat (.int .i64) t27 []]::[.dat (.int .i64) t28 []]::(uS 26 ([]))))), nS 2 ((some ⟨y13, bt1, []⟩)::(nS 53 ([])))⟩
def schema_Check_x0_0 (t2 : Int) (t3 : Int) : State := ⟨uS 2 ([.dat (.int .i64) t2 []]::[.dat (.int .i64) t3 []]::(uS 51 ([]))), nS 56 []⟩
def schema_Check_x0_1  : State := ⟨uS 55 [], nS 56 []⟩
theorem schema_Check_t (R : Type) (kk : Nat) (s_0 : Zt16) (K : List SV → Option Box → Option R) : evFn schema_Check_E (Tb11 R) kk Tryz.f40 schema_Check_c [.dat y13 s_0 []] none K =
  schema_Check_s0 s_0 (fun a0 a1 => K [.dat (.int .i64) a0 [], .dat (.int .i64) a1 []] none) (fun a0 a1 a2 a3 => loopR (ev schema_Check_E (Tb11 R) kk (sub [1, 1, 0, 1, 0, 0] schema_Check_c)) [1, 26, 27, 28] [2, 3] kk (schema_Check_h0 a0 a1 a2 a3) (kBlock 1 (kSeq schema_Check_E (Tb11 R) kk (sub [1, 1, 1] schema_Check_c) (kFin schema_Check_E Tryz.f40.results.toList none K)))) := by kernel_rfl
theorem schema_Check_d0 (R : Type) (kk k : Nat) (t26 : Zt13) (t27 : Int) (t28 : Int) (bt1 : Zt16) (K : Ex → State → Option R) : loopR (ev schema_Check_E (Tb11 R) kk (sub [1, 1, 0, 1, 0, 0] schema_Check_c)) [1, 26, 27, 28] [2, 3] (k + 1) (schema_Check_h0 t26 t27 t28 bt1) K =
  schema_Check_s1 t26 t27 t28 bt1 (fun a0 a1 => K .ret (schema_Check_x0_0 a0 a1)) (fun a0 a1 a2 a3 => loopR (ev schema_Check_E (Tb11 R) kk (sub [1, 1, 0, 1, 0, 0] schema_Check_c)) [1, 26, 27, 28] [2, 3] k (schema_Check_h0 a0 a1 a2 a3) K) (K (.exit 1) (schema_Check_x0_1)) := by kernel_rfl
theorem schema_Check_y0_0 (R : Type) (kk : Nat) (t2 : Int) (t3 : Int) (K : List SV → Option Box → Option R) : (kBlock 1 (kSeq schema_Check_E (Tb11 R) kk (sub [1, 1, 1] schema_Check_c) (kFin schema_Check_E Tryz.f40.results.toList none K))) .ret (schema_Check_x0_0 t2 t3) =
  schema_Check_s2 t2 t3 (fun a0 a1 => K [.dat (.int .i64) a0 [], .dat (.int .i64) a1 []] none) := by kernel_rfl
theorem schema_Check_y0_1 (R : Type) (kk : Nat)  (K : List SV → Option Box → Option R) : (kBlock 1 (kSeq schema_Check_E (Tb11 R) kk (sub [1, 1, 1] schema_Check_c) (kFin schema_Check_E Tryz.f40.results.toList none K))) (.exit 1) (schema_Check_x0_1) =
  schema_Check_s3 (fun a0 a1 => K [.dat (.int .i64) a0 [], .dat (.int .i64) a1 []] none) := by kernel_rfl
theorem schema_Check_lp0 (R : Type) (k : Nat) (t26 : Zt13) (t27 : Int) (t28 : Int) (bt1 : Zt16) (K : Ex → State → Option R) : loopR (ev schema_Check_E (Tb11 R) FUEL (sub [1, 1, 0, 1, 0, 0] schema_Check_c)) [1, 26, 27, 28] [2, 3] k (schema_Check_h0 t26 t27 t28 bt1) K = (schema_Check_l0 k t26 t27 t28 bt1).bind fun e => (Sum.elim (fun (we : (Int × Int)) => K .ret (schema_Check_x0_0 we.1 we.2)) (fun (we : Unit) => K (.exit 1) (schema_Check_x0_1)) e) := by
  induction k generalizing t26 t27 t28 bt1 with
  | zero => rfl
  | succ k ih =>
    rw [schema_Check_d0]
    simp only [schema_Check_l0, schema_Check_s0_bind, schema_Check_s1_bind, schema_Check_s2_bind, schema_Check_s3_bind, ih, cond_bind, within_bind, none_bind, some_bind, sum_bind, bind_bind, Sum.elim_inl, Sum.elim_inr]
theorem schema_Check_eq (R : Type) (s_0 : Zt16) (K : List SV → Option Box → Option R) : evFn schema_Check_E (Tb11 R) FUEL Tryz.f40 schema_Check_c [.dat y13 s_0 []] none K = (schema_Check s_0).bind fun r => K [.dat (.int .i64) r.1 [], .dat (.int .i64) r.2 []] none := by
  rw [schema_Check_t]
  simp only [schema_Check, schema_Check_s0_bind, schema_Check_s1_bind, schema_Check_s2_bind, schema_Check_s3_bind, schema_Check_lp0, schema_Check_y0_0, schema_Check_y0_1, cond_bind, within_bind, none_bind, some_bind, sum_bind, bind_bind, Sum.elim_inl, Sum.elim_inr]
def schema_Check_g : Pure := fun R l b K => noBox b (args1 y13 l (fun x0 => (schema_Check x0).bind fun r => K [.dat (.int .i64) r.1 [], .dat (.int .i64) r.2 []] none))
theorem schema_Check_n : schema_Check_g.Nat := fun R S l b F G K h => noBox_nat (args1_nat fun _ => bindr_nat fun _ => h _ _)
def Tb12 : Funs := Tb11.add 40 [y13] schema_Check_g
theorem Tb12_nat : Tb12.Nat := add_nat Tb11_nat schema_Check_n
theorem Tb12_owes : ∀ f, Owes Tryz.prog Tb12 f := add_owes (E := schema_Check_E) (Tab.env_ok tab_ok _ _ _ _) mixed Tb11_nat Tb11_owes (fn := Tryz.f40) (code := schema_Check_c) Tryz.func40 (by kernel_rfl) (by kernel_rfl) fun l b r b' h => by
  obtain ⟨rfl, h⟩ := noBox_some h
  obtain ⟨x0, h1, h2⟩ := own1 (E := schema_Check_E) rfl h
  exact ⟨FUEL, (h2 _ _ _ _ _ _).trans ((schema_Check_eq _ x0 _).trans h1)⟩
noncomputable abbrev digits_All_c : Code := Tryz.f76.body.getD .skip
def digits_All_E : Env := tab.env (fun i => bif Nat.beq i 2 then [6] else []) (fun i => bif Nat.beq i 2 then [2] else []) [] [.str]
def digits_All_h0 (bt6 : Zt1) : State := ⟨uS 6 ([.ptr 7 (.spc .iter .unit .unit) []]::(uS 9 ([]))), nS 7 ((some ⟨(.spc .iter .unit .unit), bt6, []⟩)::(nS 9 ([])))⟩
def digits_All_x0_0 (t2 : Bool) : State := ⟨uS 2 ([.dat .bool t2 []]::(uS 13 ([]))), nS 17 []⟩
def digits_All_x0_1  : State := ⟨uS 16 [], nS 17 []⟩
theorem digits_All_t (R : Type) (kk : Nat) (s_0 : ByteArray) (K : List SV → Option Box → Option R) : evFn digits_All_E (Tb12 R) kk Tryz.f76 digits_All_c [.dat .str s_0 []] none K =
  digits_All_s0 s_0 (fun a0 => loopR (ev digits_All_E (Tb12 R) kk (sub [1, 0, 1, 0, 0] digits_All_c)) [6] [2] kk (digits_All_h0 a0) (kBlock 0 (kSeq digits_All_E (Tb12 R) kk (sub [1, 1] digits_All_c) (kFin digits_All_E Tryz.f76.results.toList none K)))) := by kernel_rfl
theorem digits_All_d0 (R : Type) (kk k : Nat) (bt6 : Zt1) (K : Ex → State → Option R) : loopR (ev digits_All_E (Tb12 R) kk (sub [1, 0, 1, 0, 0] digits_All_c)) [6] [2] (k + 1) (digits_All_h0 bt6) K =
  digits_All_s1 bt6 (fun a0 => K .ret (digits_All_x0_0 a0)) (fun a0 => loopR (ev digits_All_E (Tb12 R) kk (sub [1, 0, 1, 0, 0] digits_All_c)) [6] [2] k (digits_All_h0 a0) K) (K (.exit 0) (digits_All_x0_1)) := by kernel_rfl
theorem digits_All_y0_0 (R : Type) (kk : Nat) (t2 : Bool) (K : List SV → Option Box → Option R) : (kBlock 0 (kSeq digits_All_E (Tb12 R) kk (sub [1, 1] digits_All_c) (kFin digits_All_E Tryz.f76.results.toList none K))) .ret (digits_All_x0_0 t2) =
  digits_All_s2 t2 (fun a0 => K [.dat .bool a0 []] none) := by kernel_rfl
theorem digits_All_y0_1 (R : Type) (kk : Nat)  (K : List SV → Option Box → Option R) : (kBlock 0 (kSeq digits_All_E (Tb12 R) kk (sub [1, 1] digits_All_c) (kFin digits_All_E Tryz.f76.results.toList none K))) (.exit 0) (digits_All_x0_1) =
  digits_All_s3 (fun a0 => K [.dat .bool a0 []] none) := by kernel_rfl
theorem digits_All_lp0 (R : Type) (k : Nat) (bt6 : Zt1) (K : Ex → State → Option R) : loopR (ev digits_All_E (Tb12 R) FUEL (sub [1, 0, 1, 0, 0] digits_All_c)) [6] [2] k (digits_All_h0 bt6) K = (digits_All_l0 k bt6).bind fun e => (Sum.elim (fun (we : Bool) => K .ret (digits_All_x0_0 we)) (fun (we : Unit) => K (.exit 0) (digits_All_x0_1)) e) := by
  induction k generalizing bt6 with
  | zero => rfl
  | succ k ih =>
    rw [digits_All_d0]
    simp only [digits_All_l0, digits_All_s0_bind, digits_All_s1_bind, digits_All_s2_bind, digits_All_s3_bind, ih, cond_bind, within_bind, none_bind, some_bind, sum_bind, bind_bind, Sum.elim_inl, Sum.elim_inr]
theorem digits_All_eq (R : Type) (s_0 : ByteArray) (K : List SV → Option Box → Option R) : evFn digits_All_E (Tb12 R) FUEL Tryz.f76 digits_All_c [.dat .str s_0 []] none K = (digits_All s_0).bind fun r => K [.dat .bool r []] none := by
  rw [digits_All_t]
  simp only [digits_All, digits_All_s0_bind, digits_All_s1_bind, digits_All_s2_bind, digits_All_s3_bind, digits_All_lp0, digits_All_y0_0, digits_All_y0_1, cond_bind, within_bind, none_bind, some_bind, sum_bind, bind_bind, Sum.elim_inl, Sum.elim_inr]
def digits_All_g : Pure := fun R l b K => noBox b (args1 .str l (fun x0 => (digits_All x0).bind fun r => K [.dat .bool r []] none))
theorem digits_All_n : digits_All_g.Nat := fun R S l b F G K h => noBox_nat (args1_nat fun _ => bindr_nat fun _ => h _ _)
def Tb13 : Funs := Tb12.add 76 [.str] digits_All_g
theorem Tb13_nat : Tb13.Nat := add_nat Tb12_nat digits_All_n
theorem Tb13_owes : ∀ f, Owes Tryz.prog Tb13 f := add_owes (E := digits_All_E) (Tab.env_ok tab_ok _ _ _ _) mixed Tb12_nat Tb12_owes (fn := Tryz.f76) (code := digits_All_c) Tryz.func76 (by kernel_rfl) (by kernel_rfl) fun l b r b' h => by
  obtain ⟨rfl, h⟩ := noBox_some h
  obtain ⟨x0, h1, h2⟩ := own1 (E := digits_All_E) rfl h
  exact ⟨FUEL, (h2 _ _ _ _ _ _).trans ((digits_All_eq _ x0 _).trans h1)⟩
noncomputable abbrev mti_Right_c : Code := Tryz.f73.body.getD .skip
def mti_Right_E : Env := tab.env (fun _ => []) (fun _ => []) [] [.str]
theorem mti_Right_t (R : Type) (kk : Nat) (m_0 : ByteArray) (K : List SV → Option Box → Option R) : evFn mti_Right_E (Tb13 R) kk Tryz.f73 mti_Right_c [.dat .str m_0 []] none K =
  mti_Right_s0 m_0 (fun a0 => K [.dat .bool a0 []] none) := by kernel_rfl
theorem mti_Right_eq (R : Type) (m_0 : ByteArray) (K : List SV → Option Box → Option R) : evFn mti_Right_E (Tb13 R) FUEL Tryz.f73 mti_Right_c [.dat .str m_0 []] none K = (mti_Right m_0).bind fun r => K [.dat .bool r []] none := by
  rw [mti_Right_t]
  simp only [mti_Right, mti_Right_s0_bind, cond_bind, within_bind, none_bind, some_bind, sum_bind, bind_bind, Sum.elim_inl, Sum.elim_inr]
def mti_Right_g : Pure := fun R l b K => noBox b (args1 .str l (fun x0 => (mti_Right x0).bind fun r => K [.dat .bool r []] none))
theorem mti_Right_n : mti_Right_g.Nat := fun R S l b F G K h => noBox_nat (args1_nat fun _ => bindr_nat fun _ => h _ _)
def Tb14 : Funs := Tb13.add 73 [.str] mti_Right_g
theorem Tb14_nat : Tb14.Nat := add_nat Tb13_nat mti_Right_n
theorem Tb14_owes : ∀ f, Owes Tryz.prog Tb14 f := add_owes (E := mti_Right_E) (Tab.env_ok tab_ok _ _ _ _) mixed Tb13_nat Tb13_owes (fn := Tryz.f73) (code := mti_Right_c) Tryz.func73 (by kernel_rfl) (by kernel_rfl) fun l b r b' h => by
  obtain ⟨rfl, h⟩ := noBox_some h
  obtain ⟨x0, h1, h2⟩ := own1 (E := mti_Right_E) rfl h
  exact ⟨FUEL, (h2 _ _ _ _ _ _).trans ((mti_Right_eq _ x0 _).trans h1)⟩
noncomputable abbrev mti_Version_c : Code := Tryz.f54.body.getD .skip
def mti_Version_E : Env := tab.env (fun _ => []) (fun _ => []) [] [.str]
theorem mti_Version_t (R : Type) (kk : Nat) (m_0 : ByteArray) (K : List SV → Option Box → Option R) : evFn mti_Version_E (Tb14 R) kk Tryz.f54 mti_Version_c [.dat .str m_0 []] none K =
  mti_Version_s0 m_0 (fun a0 a1 => K [.dat (.int .i64) a0 [], .dat .bool a1 []] none) := by kernel_rfl
theorem mti_Version_eq (R : Type) (m_0 : ByteArray) (K : List SV → Option Box → Option R) : evFn mti_Version_E (Tb14 R) FUEL Tryz.f54 mti_Version_c [.dat .str m_0 []] none K = (mti_Version m_0).bind fun r => K [.dat (.int .i64) r.1 [], .dat .bool r.2 []] none := by
  rw [mti_Version_t]
  simp only [mti_Version, mti_Version_s0_bind, cond_bind, within_bind, none_bind, some_bind, sum_bind, bind_bind, Sum.elim_inl, Sum.elim_inr]
def mti_Version_g : Pure := fun R l b K => noBox b (args1 .str l (fun x0 => (mti_Version x0).bind fun r => K [.dat (.int .i64) r.1 [], .dat .bool r.2 []] none))
theorem mti_Version_n : mti_Version_g.Nat := fun R S l b F G K h => noBox_nat (args1_nat fun _ => bindr_nat fun _ => h _ _)
def Tb15 : Funs := Tb14.add 54 [.str] mti_Version_g
theorem Tb15_nat : Tb15.Nat := add_nat Tb14_nat mti_Version_n
theorem Tb15_owes : ∀ f, Owes Tryz.prog Tb15 f := add_owes (E := mti_Version_E) (Tab.env_ok tab_ok _ _ _ _) mixed Tb14_nat Tb14_owes (fn := Tryz.f54) (code := mti_Version_c) Tryz.func54 (by kernel_rfl) (by kernel_rfl) fun l b r b' h => by
  obtain ⟨rfl, h⟩ := noBox_some h
  obtain ⟨x0, h1, h2⟩ := own1 (E := mti_Version_E) rfl h
  exact ⟨FUEL, (h2 _ _ _ _ _ _).trans ((mti_Version_eq _ x0 _).trans h1)⟩
noncomputable abbrev mti_Request_c : Code := Tryz.f63.body.getD .skip
def mti_Request_E : Env := tab.env (fun _ => []) (fun _ => []) [] [.str]
theorem mti_Request_t (R : Type) (kk : Nat) (m_0 : ByteArray) (K : List SV → Option Box → Option R) : evFn mti_Request_E (Tb15 R) kk Tryz.f63 mti_Request_c [.dat .str m_0 []] none K =
  mti_Request_s0 m_0 (fun a0 => K [.dat .bool a0 []] none) := by kernel_rfl
theorem mti_Request_eq (R : Type) (m_0 : ByteArray) (K : List SV → Option Box → Option R) : evFn mti_Request_E (Tb15 R) FUEL Tryz.f63 mti_Request_c [.dat .str m_0 []] none K = (mti_Request m_0).bind fun r => K [.dat .bool r []] none := by
  rw [mti_Request_t]
  simp only [mti_Request, mti_Request_s0_bind, cond_bind, within_bind, none_bind, some_bind, sum_bind, bind_bind, Sum.elim_inl, Sum.elim_inr]
def mti_Request_g : Pure := fun R l b K => noBox b (args1 .str l (fun x0 => (mti_Request x0).bind fun r => K [.dat .bool r []] none))
theorem mti_Request_n : mti_Request_g.Nat := fun R S l b F G K h => noBox_nat (args1_nat fun _ => bindr_nat fun _ => h _ _)
def Tb16 : Funs := Tb15.add 63 [.str] mti_Request_g
theorem Tb16_nat : Tb16.Nat := add_nat Tb15_nat mti_Request_n
theorem Tb16_owes : ∀ f, Owes Tryz.prog Tb16 f := add_owes (E := mti_Request_E) (Tab.env_ok tab_ok _ _ _ _) mixed Tb15_nat Tb15_owes (fn := Tryz.f63) (code := mti_Request_c) Tryz.func63 (by kernel_rfl) (by kernel_rfl) fun l b r b' h => by
  obtain ⟨rfl, h⟩ := noBox_some h
  obtain ⟨x0, h1, h2⟩ := own1 (E := mti_Request_E) rfl h
  exact ⟨FUEL, (h2 _ _ _ _ _ _).trans ((mti_Request_eq _ x0 _).trans h1)⟩
noncomputable abbrev xlate_typed_c : Code := Tryz.f41.body.getD .skip
def xlate_typed_E : Env := tab.env (fun _ => []) (fun _ => []) [] [(.pair .str (.pair .str .unit)), y13, y13]
theorem xlate_typed_t (R : Type) (kk : Nat) (p_0 : Zt8) (a_1 : Zt16) (b_2 : Zt16) (K : List SV → Option Box → Option R) : evFn xlate_typed_E (Tb16 R) kk Tryz.f41 xlate_typed_c [.dat (.pair .str (.pair .str .unit)) p_0 [], .dat y13 a_1 [], .dat y13 b_2 []] none K =
  xlate_typed_s0 p_0 a_1 b_2 (fun a0 => K [.dat .bool a0 []] none) := by kernel_rfl
theorem xlate_typed_eq (R : Type) (p_0 : Zt8) (a_1 : Zt16) (b_2 : Zt16) (K : List SV → Option Box → Option R) : evFn xlate_typed_E (Tb16 R) FUEL Tryz.f41 xlate_typed_c [.dat (.pair .str (.pair .str .unit)) p_0 [], .dat y13 a_1 [], .dat y13 b_2 []] none K = (xlate_typed p_0 a_1 b_2).bind fun r => K [.dat .bool r []] none := by
  rw [xlate_typed_t]
  simp only [xlate_typed, xlate_typed_s0_bind, cond_bind, within_bind, none_bind, some_bind, sum_bind, bind_bind, Sum.elim_inl, Sum.elim_inr]
def xlate_typed_g : Pure := fun R l b K => noBox b (args3 (.pair .str (.pair .str .unit)) y13 y13 l (fun x0 x1 x2 => (xlate_typed x0 x1 x2).bind fun r => K [.dat .bool r []] none))
theorem xlate_typed_n : xlate_typed_g.Nat := fun R S l b F G K h => noBox_nat (args3_nat fun _ _ _ => bindr_nat fun _ => h _ _)
def Tb17 : Funs := Tb16.add 41 [(.pair .str (.pair .str .unit)), y13, y13] xlate_typed_g
theorem Tb17_nat : Tb17.Nat := add_nat Tb16_nat xlate_typed_n
theorem Tb17_owes : ∀ f, Owes Tryz.prog Tb17 f := add_owes (E := xlate_typed_E) (Tab.env_ok tab_ok _ _ _ _) mixed Tb16_nat Tb16_owes (fn := Tryz.f41) (code := xlate_typed_c) Tryz.func41 (by kernel_rfl) (by kernel_rfl) fun l b r b' h => by
  obtain ⟨rfl, h⟩ := noBox_some h
  obtain ⟨x0, x1, x2, h1, h2⟩ := own3 (E := xlate_typed_E) rfl h
  exact ⟨FUEL, (h2 _ _ _ _ _ _).trans ((xlate_typed_eq _ x0 x1 x2 _).trans h1)⟩
noncomputable abbrev schema_Find_c : Code := Tryz.f47.body.getD .skip
def schema_Find_E : Env := tab.env (fun i => bif Nat.beq i 2 then [1, 4, 9, 10, 11] else []) (fun i => bif Nat.beq i 2 then [4, 5] else []) [4] [y13, (.int .i64)]
def schema_Find_h0 (no_1 : Int) (t9 : Zt13) (t10 : Int) (t11 : Int) (bt4 : Zt11) : State := ⟨uS 1 ([.dat (.int .i64) no_1 []]::(uS 2 ([.ptr 5 y7 []]::(uS 4 ([.dat (.sl 72 y7) t9 []]::[.dat (.int .i64) t10 []]::[.dat (.int .i64) t11 []]::(uS 10 ([]))))))), nS 5 ((some ⟨y7, bt4, []⟩)::(nS 17 ([])))⟩
def schema_Find_x0_0 (t5 : Bool) (bt4 : Zt11) : State := ⟨uS 4 ([.ptr 5 y7 []]::[.dat .bool t5 []]::(uS 16 ([]))), nS 5 ((some ⟨y7, bt4, []⟩)::(nS 17 ([])))⟩
def schema_Find_x0_1 (bt4 : Zt11) : State := ⟨uS 4 ([.ptr 5 y7 []]::(uS 17 ([]))), nS 5 ((some ⟨y7, bt4, []⟩)::(nS 17 ([])))⟩
theorem schema_Find_t (R : Type) (kk : Nat) (s_0 : Zt16) (no_1 : Int) (K : List SV → Option Box → Option R) : evFn schema_Find_E (Tb17 R) kk Tryz.f47 schema_Find_c [.dat y13 s_0 [], .dat (.int .i64) no_1 []] none K =
  schema_Find_s0 s_0 no_1 (fun a0 a1 a2 a3 a4 => loopR (ev schema_Find_E (Tb17 R) kk (sub [1, 0, 1, 0, 0] schema_Find_c)) [1, 4, 9, 10, 11] [4, 5] kk (schema_Find_h0 a0 a1 a2 a3 a4) (kBlock 0 (kSeq schema_Find_E (Tb17 R) kk (sub [1, 1] schema_Find_c) (kFin schema_Find_E Tryz.f47.results.toList none K)))) := by kernel_rfl
theorem schema_Find_d0 (R : Type) (kk k : Nat) (no_1 : Int) (t9 : Zt13) (t10 : Int) (t11 : Int) (bt4 : Zt11) (K : Ex → State → Option R) : loopR (ev schema_Find_E (Tb17 R) kk (sub [1, 0, 1, 0, 0] schema_Find_c)) [1, 4, 9, 10, 11] [4, 5] (k + 1) (schema_Find_h0 no_1 t9 t10 t11 bt4) K =
  schema_Find_s1 no_1 t9 t10 t11 bt4 (fun a0 a1 => K .ret (schema_Find_x0_0 a0 a1)) (fun a0 a1 a2 a3 a4 => loopR (ev schema_Find_E (Tb17 R) kk (sub [1, 0, 1, 0, 0] schema_Find_c)) [1, 4, 9, 10, 11] [4, 5] k (schema_Find_h0 a0 a1 a2 a3 a4) K) (fun a0 => K (.exit 0) (schema_Find_x0_1 a0)) := by kernel_rfl
theorem schema_Find_y0_0 (R : Type) (kk : Nat) (t5 : Bool) (bt4 : Zt11) (K : List SV → Option Box → Option R) : (kBlock 0 (kSeq schema_Find_E (Tb17 R) kk (sub [1, 1] schema_Find_c) (kFin schema_Find_E Tryz.f47.results.toList none K))) .ret (schema_Find_x0_0 t5 bt4) =
  schema_Find_s2 t5 bt4 (fun a0 a1 => K [.dat y7 a0 [], .dat .bool a1 []] none) := by kernel_rfl
theorem schema_Find_y0_1 (R : Type) (kk : Nat) (bt4 : Zt11) (K : List SV → Option Box → Option R) : (kBlock 0 (kSeq schema_Find_E (Tb17 R) kk (sub [1, 1] schema_Find_c) (kFin schema_Find_E Tryz.f47.results.toList none K))) (.exit 0) (schema_Find_x0_1 bt4) =
  schema_Find_s3 bt4 (fun a0 a1 => K [.dat y7 a0 [], .dat .bool a1 []] none) := by kernel_rfl
theorem schema_Find_lp0 (R : Type) (k : Nat) (no_1 : Int) (t9 : Zt13) (t10 : Int) (t11 : Int) (bt4 : Zt11) (K : Ex → State → Option R) : loopR (ev schema_Find_E (Tb17 R) FUEL (sub [1, 0, 1, 0, 0] schema_Find_c)) [1, 4, 9, 10, 11] [4, 5] k (schema_Find_h0 no_1 t9 t10 t11 bt4) K = (schema_Find_l0 k no_1 t9 t10 t11 bt4).bind fun e => (Sum.elim (fun (we : (Bool × Zt11)) => K .ret (schema_Find_x0_0 we.1 we.2)) (fun (we : Zt11) => K (.exit 0) (schema_Find_x0_1 we)) e) := by
  induction k generalizing no_1 t9 t10 t11 bt4 with
  | zero => rfl
  | succ k ih =>
    rw [schema_Find_d0]
    simp only [schema_Find_l0, schema_Find_s0_bind, schema_Find_s1_bind, schema_Find_s2_bind, schema_Find_s3_bind, ih, cond_bind, within_bind, none_bind, some_bind, sum_bind, bind_bind, Sum.elim_inl, Sum.elim_inr]
theorem schema_Find_eq (R : Type) (s_0 : Zt16) (no_1 : Int) (K : List SV → Option Box → Option R) : evFn schema_Find_E (Tb17 R) FUEL Tryz.f47 schema_Find_c [.dat y13 s_0 [], .dat (.int .i64) no_1 []] none K = (schema_Find s_0 no_1).bind fun r => K [.dat y7 r.1 [], .dat .bool r.2 []] none := by
  rw [schema_Find_t]
  simp only [schema_Find, schema_Find_s0_bind, schema_Find_s1_bind, schema_Find_s2_bind, schema_Find_s3_bind, schema_Find_lp0, schema_Find_y0_0, schema_Find_y0_1, cond_bind, within_bind, none_bind, some_bind, sum_bind, bind_bind, Sum.elim_inl, Sum.elim_inr]
def schema_Find_g : Pure := fun R l b K => noBox b (args2 y13 (.int .i64) l (fun x0 x1 => (schema_Find x0 x1).bind fun r => K [.dat y7 r.1 [], .dat .bool r.2 []] none))
theorem schema_Find_n : schema_Find_g.Nat := fun R S l b F G K h => noBox_nat (args2_nat fun _ _ => bindr_nat fun _ => h _ _)
def Tb18 : Funs := Tb17.add 47 [y13, (.int .i64)] schema_Find_g
theorem Tb18_nat : Tb18.Nat := add_nat Tb17_nat schema_Find_n
theorem Tb18_owes : ∀ f, Owes Tryz.prog Tb18 f := add_owes (E := schema_Find_E) (Tab.env_ok tab_ok _ _ _ _) mixed Tb17_nat Tb17_owes (fn := Tryz.f47) (code := schema_Find_c) Tryz.func47 (by kernel_rfl) (by kernel_rfl) fun l b r b' h => by
  obtain ⟨rfl, h⟩ := noBox_some h
  obtain ⟨x0, x1, h1, h2⟩ := own2 (E := schema_Find_E) rfl h
  exact ⟨FUEL, (h2 _ _ _ _ _ _).trans ((schema_Find_eq _ x0 x1 _).trans h1)⟩
noncomputable abbrev rule_ends_c : Code := Tryz.f64.body.getD .skip
def rule_ends_E : Env := tab.env (fun _ => []) (fun _ => []) [6, 7] [y9, y13, y13]
theorem rule_ends_t (R : Type) (kk : Nat) (r_0 : Zt18) (a_1 : Zt16) (b_2 : Zt16) (K : List SV → Option Box → Option R) : evFn rule_ends_E (Tb18 R) kk Tryz.f64 rule_ends_c [.dat y9 r_0 [], .dat y13 a_1 [], .dat y13 b_2 []] none K =
  rule_ends_s0 r_0 a_1 b_2 (fun a0 a1 a2 => K [.dat y7 a0 [], .dat y7 a1 [], .dat (.int .i64) a2 []] none) := by kernel_rfl
theorem rule_ends_eq (R : Type) (r_0 : Zt18) (a_1 : Zt16) (b_2 : Zt16) (K : List SV → Option Box → Option R) : evFn rule_ends_E (Tb18 R) FUEL Tryz.f64 rule_ends_c [.dat y9 r_0 [], .dat y13 a_1 [], .dat y13 b_2 []] none K = (rule_ends r_0 a_1 b_2).bind fun r => K [.dat y7 r.1 [], .dat y7 r.2.1 [], .dat (.int .i64) r.2.2 []] none := by
  rw [rule_ends_t]
  simp only [rule_ends, rule_ends_s0_bind, cond_bind, within_bind, none_bind, some_bind, sum_bind, bind_bind, Sum.elim_inl, Sum.elim_inr]
def rule_ends_g : Pure := fun R l b K => noBox b (args3 y9 y13 y13 l (fun x0 x1 x2 => (rule_ends x0 x1 x2).bind fun r => K [.dat y7 r.1 [], .dat y7 r.2.1 [], .dat (.int .i64) r.2.2 []] none))
theorem rule_ends_n : rule_ends_g.Nat := fun R S l b F G K h => noBox_nat (args3_nat fun _ _ _ => bindr_nat fun _ => h _ _)
def Tb19 : Funs := Tb18.add 64 [y9, y13, y13] rule_ends_g
theorem Tb19_nat : Tb19.Nat := add_nat Tb18_nat rule_ends_n
theorem Tb19_owes : ∀ f, Owes Tryz.prog Tb19 f := add_owes (E := rule_ends_E) (Tab.env_ok tab_ok _ _ _ _) mixed Tb18_nat Tb18_owes (fn := Tryz.f64) (code := rule_ends_c) Tryz.func64 (by kernel_rfl) (by kernel_rfl) fun l b r b' h => by
  obtain ⟨rfl, h⟩ := noBox_some h
  obtain ⟨x0, x1, x2, h1, h2⟩ := own3 (E := rule_ends_E) rfl h
  exact ⟨FUEL, (h2 _ _ _ _ _ _).trans ((rule_ends_eq _ x0 x1 x2 _).trans h1)⟩
noncomputable abbrev class_Wider_c : Code := Tryz.f81.body.getD .skip
def class_Wider_E : Env := tab.env (fun _ => []) (fun _ => []) [] [(.int .i64), (.int .i64)]
theorem class_Wider_t (R : Type) (kk : Nat) (a_0 : Int) (b_1 : Int) (K : List SV → Option Box → Option R) : evFn class_Wider_E (Tb19 R) kk Tryz.f81 class_Wider_c [.dat (.int .i64) a_0 [], .dat (.int .i64) b_1 []] none K =
  class_Wider_s0 a_0 b_1 (fun a0 => K [.dat .bool a0 []] none) := by kernel_rfl
theorem class_Wider_eq (R : Type) (a_0 : Int) (b_1 : Int) (K : List SV → Option Box → Option R) : evFn class_Wider_E (Tb19 R) FUEL Tryz.f81 class_Wider_c [.dat (.int .i64) a_0 [], .dat (.int .i64) b_1 []] none K = (class_Wider a_0 b_1).bind fun r => K [.dat .bool r []] none := by
  rw [class_Wider_t]
  simp only [class_Wider, class_Wider_s0_bind, cond_bind, within_bind, none_bind, some_bind, sum_bind, bind_bind, Sum.elim_inl, Sum.elim_inr]
def class_Wider_g : Pure := fun R l b K => noBox b (args2 (.int .i64) (.int .i64) l (fun x0 x1 => (class_Wider x0 x1).bind fun r => K [.dat .bool r []] none))
theorem class_Wider_n : class_Wider_g.Nat := fun R S l b F G K h => noBox_nat (args2_nat fun _ _ => bindr_nat fun _ => h _ _)
def Tb20 : Funs := Tb19.add 81 [(.int .i64), (.int .i64)] class_Wider_g
theorem Tb20_nat : Tb20.Nat := add_nat Tb19_nat class_Wider_n
theorem Tb20_owes : ∀ f, Owes Tryz.prog Tb20 f := add_owes (E := class_Wider_E) (Tab.env_ok tab_ok _ _ _ _) mixed Tb19_nat Tb19_owes (fn := Tryz.f81) (code := class_Wider_c) Tryz.func81 (by kernel_rfl) (by kernel_rfl) fun l b r b' h => by
  obtain ⟨rfl, h⟩ := noBox_some h
  obtain ⟨x0, x1, h1, h2⟩ := own2 (E := class_Wider_E) rfl h
  exact ⟨FUEL, (h2 _ _ _ _ _ _).trans ((class_Wider_eq _ x0 x1 _).trans h1)⟩
noncomputable abbrev spec_classes_c : Code := Tryz.f67.body.getD .skip
def spec_classes_E : Env := tab.env (fun _ => []) (fun _ => []) [] [(.int .i64), (.int .i64)]
theorem spec_classes_t (R : Type) (kk : Nat) (a_0 : Int) (b_1 : Int) (K : List SV → Option Box → Option R) : evFn spec_classes_E (Tb20 R) kk Tryz.f67 spec_classes_c [.dat (.int .i64) a_0 [], .dat (.int .i64) b_1 []] none K =
  spec_classes_s0 a_0 b_1 (fun a0 => K [.dat .bool a0 []] none) := by kernel_rfl
theorem spec_classes_eq (R : Type) (a_0 : Int) (b_1 : Int) (K : List SV → Option Box → Option R) : evFn spec_classes_E (Tb20 R) FUEL Tryz.f67 spec_classes_c [.dat (.int .i64) a_0 [], .dat (.int .i64) b_1 []] none K = (spec_classes a_0 b_1).bind fun r => K [.dat .bool r []] none := by
  rw [spec_classes_t]
  simp only [spec_classes, spec_classes_s0_bind, cond_bind, within_bind, none_bind, some_bind, sum_bind, bind_bind, Sum.elim_inl, Sum.elim_inr]
def spec_classes_g : Pure := fun R l b K => noBox b (args2 (.int .i64) (.int .i64) l (fun x0 x1 => (spec_classes x0 x1).bind fun r => K [.dat .bool r []] none))
theorem spec_classes_n : spec_classes_g.Nat := fun R S l b F G K h => noBox_nat (args2_nat fun _ _ => bindr_nat fun _ => h _ _)
def Tb21 : Funs := Tb20.add 67 [(.int .i64), (.int .i64)] spec_classes_g
theorem Tb21_nat : Tb21.Nat := add_nat Tb20_nat spec_classes_n
theorem Tb21_owes : ∀ f, Owes Tryz.prog Tb21 f := add_owes (E := spec_classes_E) (Tab.env_ok tab_ok _ _ _ _) mixed Tb20_nat Tb20_owes (fn := Tryz.f67) (code := spec_classes_c) Tryz.func67 (by kernel_rfl) (by kernel_rfl) fun l b r b' h => by
  obtain ⟨rfl, h⟩ := noBox_some h
  obtain ⟨x0, x1, h1, h2⟩ := own2 (E := spec_classes_E) rfl h
  exact ⟨FUEL, (h2 _ _ _ _ _ _).trans ((spec_classes_eq _ x0 x1 _).trans h1)⟩
noncomputable abbrev spec_Wider_c : Code := Tryz.f48.body.getD .skip
def spec_Wider_E : Env := tab.env (fun _ => []) (fun _ => []) [] [y7, y7]
theorem spec_Wider_t (R : Type) (kk : Nat) (a_0 : Zt11) (b_1 : Zt11) (K : List SV → Option Box → Option R) : evFn spec_Wider_E (Tb21 R) kk Tryz.f48 spec_Wider_c [.dat y7 a_0 [], .dat y7 b_1 []] none K =
  spec_Wider_s0 a_0 b_1 (fun a0 => K [.dat .bool a0 []] none) := by kernel_rfl
theorem spec_Wider_eq (R : Type) (a_0 : Zt11) (b_1 : Zt11) (K : List SV → Option Box → Option R) : evFn spec_Wider_E (Tb21 R) FUEL Tryz.f48 spec_Wider_c [.dat y7 a_0 [], .dat y7 b_1 []] none K = (spec_Wider a_0 b_1).bind fun r => K [.dat .bool r []] none := by
  rw [spec_Wider_t]
  simp only [spec_Wider, spec_Wider_s0_bind, cond_bind, within_bind, none_bind, some_bind, sum_bind, bind_bind, Sum.elim_inl, Sum.elim_inr]
def spec_Wider_g : Pure := fun R l b K => noBox b (args2 y7 y7 l (fun x0 x1 => (spec_Wider x0 x1).bind fun r => K [.dat .bool r []] none))
theorem spec_Wider_n : spec_Wider_g.Nat := fun R S l b F G K h => noBox_nat (args2_nat fun _ _ => bindr_nat fun _ => h _ _)
def Tb22 : Funs := Tb21.add 48 [y7, y7] spec_Wider_g
theorem Tb22_nat : Tb22.Nat := add_nat Tb21_nat spec_Wider_n
theorem Tb22_owes : ∀ f, Owes Tryz.prog Tb22 f := add_owes (E := spec_Wider_E) (Tab.env_ok tab_ok _ _ _ _) mixed Tb21_nat Tb21_owes (fn := Tryz.f48) (code := spec_Wider_c) Tryz.func48 (by kernel_rfl) (by kernel_rfl) fun l b r b' h => by
  obtain ⟨rfl, h⟩ := noBox_some h
  obtain ⟨x0, x1, h1, h2⟩ := own2 (E := spec_Wider_E) rfl h
  exact ⟨FUEL, (h2 _ _ _ _ _ _).trans ((spec_Wider_eq _ x0 x1 _).trans h1)⟩
noncomputable abbrev class_of_c : Code := Tryz.f84.body.getD .skip
def class_of_E : Env := tab.env (fun _ => []) (fun _ => []) [] [(.int .u8)]
theorem class_of_t (R : Type) (kk : Nat) (b_0 : Int) (K : List SV → Option Box → Option R) : evFn class_of_E (Tb22 R) kk Tryz.f84 class_of_c [.dat (.int .u8) b_0 []] none K =
  class_of_s0 b_0 (fun a0 => K [.dat (.int .i64) a0 []] none) := by kernel_rfl
theorem class_of_eq (R : Type) (b_0 : Int) (K : List SV → Option Box → Option R) : evFn class_of_E (Tb22 R) FUEL Tryz.f84 class_of_c [.dat (.int .u8) b_0 []] none K = (class_of b_0).bind fun r => K [.dat (.int .i64) r []] none := by
  rw [class_of_t]
  simp only [class_of, class_of_s0_bind, cond_bind, within_bind, none_bind, some_bind, sum_bind, bind_bind, Sum.elim_inl, Sum.elim_inr]
def class_of_g : Pure := fun R l b K => noBox b (args1 (.int .u8) l (fun x0 => (class_of x0).bind fun r => K [.dat (.int .i64) r []] none))
theorem class_of_n : class_of_g.Nat := fun R S l b F G K h => noBox_nat (args1_nat fun _ => bindr_nat fun _ => h _ _)
def Tb23 : Funs := Tb22.add 84 [(.int .u8)] class_of_g
theorem Tb23_nat : Tb23.Nat := add_nat Tb22_nat class_of_n
theorem Tb23_owes : ∀ f, Owes Tryz.prog Tb23 f := add_owes (E := class_of_E) (Tab.env_ok tab_ok _ _ _ _) mixed Tb22_nat Tb22_owes (fn := Tryz.f84) (code := class_of_c) Tryz.func84 (by kernel_rfl) (by kernel_rfl) fun l b r b' h => by
  obtain ⟨rfl, h⟩ := noBox_some h
  obtain ⟨x0, h1, h2⟩ := own1 (E := class_of_E) rfl h
  exact ⟨FUEL, (h2 _ _ _ _ _ _).trans ((class_of_eq _ x0 _).trans h1)⟩
noncomputable abbrev class_First_c : Code := Tryz.f74.body.getD .skip
def class_First_E : Env := tab.env (fun i => bif Nat.beq i 3 then [1, 5, 6] else []) (fun i => bif Nat.beq i 3 then [4] else []) [] [(.int .i64), .str]
def class_First_h0 (s_1 : ByteArray) (t5 : Int) (t6 : Int) : State := ⟨uS 1 ([.dat .str s_1 []]::(uS 3 ([.dat (.int .i64) t5 []]::[.dat (.int .i64) t6 []]::(uS 16 ([]))))), nS 24 []⟩
def class_First_x0_0 (t4 : Int) : State := ⟨uS 4 ([.dat (.int .i64) t4 []]::(uS 18 ([]))), nS 24 []⟩
def class_First_x0_1  : State := ⟨uS 23 [], nS 24 []⟩
theorem class_First_t (R : Type) (kk : Nat) (class_0 : Int) (s_1 : ByteArray) (K : List SV → Option Box → Option R) : evFn class_First_E (Tb23 R) kk Tryz.f74 class_First_c [.dat (.int .i64) class_0 [], .dat .str s_1 []] none K =
  class_First_s0 class_0 s_1 (fun a0 a1 a2 => loopR (ev class_First_E (Tb23 R) kk (sub [1, 1, 0, 1, 0, 0] class_First_c)) [1, 5, 6] [4] kk (class_First_h0 a0 a1 a2) (kBlock 0 (kSeq class_First_E (Tb23 R) kk (sub [1, 1, 1] class_First_c) (kFin class_First_E Tryz.f74.results.toList none K)))) := by kernel_rfl
theorem class_First_d0 (R : Type) (kk k : Nat) (s_1 : ByteArray) (t5 : Int) (t6 : Int) (K : Ex → State → Option R) : loopR (ev class_First_E (Tb23 R) kk (sub [1, 1, 0, 1, 0, 0] class_First_c)) [1, 5, 6] [4] (k + 1) (class_First_h0 s_1 t5 t6) K =
  class_First_s1 s_1 t5 t6 (fun a0 => K .ret (class_First_x0_0 a0)) (fun a0 a1 a2 => loopR (ev class_First_E (Tb23 R) kk (sub [1, 1, 0, 1, 0, 0] class_First_c)) [1, 5, 6] [4] k (class_First_h0 a0 a1 a2) K) (K (.exit 0) (class_First_x0_1)) := by kernel_rfl
theorem class_First_y0_0 (R : Type) (kk : Nat) (t4 : Int) (K : List SV → Option Box → Option R) : (kBlock 0 (kSeq class_First_E (Tb23 R) kk (sub [1, 1, 1] class_First_c) (kFin class_First_E Tryz.f74.results.toList none K))) .ret (class_First_x0_0 t4) =
  class_First_s2 t4 (fun a0 => K [.dat (.int .i64) a0 []] none) := by kernel_rfl
theorem class_First_y0_1 (R : Type) (kk : Nat)  (K : List SV → Option Box → Option R) : (kBlock 0 (kSeq class_First_E (Tb23 R) kk (sub [1, 1, 1] class_First_c) (kFin class_First_E Tryz.f74.results.toList none K))) (.exit 0) (class_First_x0_1) =
  class_First_s3 (fun a0 => K [.dat (.int .i64) a0 []] none) := by kernel_rfl
theorem class_First_lp0 (R : Type) (k : Nat) (s_1 : ByteArray) (t5 : Int) (t6 : Int) (K : Ex → State → Option R) : loopR (ev class_First_E (Tb23 R) FUEL (sub [1, 1, 0, 1, 0, 0] class_First_c)) [1, 5, 6] [4] k (class_First_h0 s_1 t5 t6) K = (class_First_l0 k s_1 t5 t6).bind fun e => (Sum.elim (fun (we : Int) => K .ret (class_First_x0_0 we)) (fun (we : Unit) => K (.exit 0) (class_First_x0_1)) e) := by
  induction k generalizing s_1 t5 t6 with
  | zero => rfl
  | succ k ih =>
    rw [class_First_d0]
    simp only [class_First_l0, class_First_s0_bind, class_First_s1_bind, class_First_s2_bind, class_First_s3_bind, ih, cond_bind, within_bind, none_bind, some_bind, sum_bind, bind_bind, Sum.elim_inl, Sum.elim_inr]
theorem class_First_eq (R : Type) (class_0 : Int) (s_1 : ByteArray) (K : List SV → Option Box → Option R) : evFn class_First_E (Tb23 R) FUEL Tryz.f74 class_First_c [.dat (.int .i64) class_0 [], .dat .str s_1 []] none K = (class_First class_0 s_1).bind fun r => K [.dat (.int .i64) r []] none := by
  rw [class_First_t]
  simp only [class_First, class_First_s0_bind, class_First_s1_bind, class_First_s2_bind, class_First_s3_bind, class_First_lp0, class_First_y0_0, class_First_y0_1, cond_bind, within_bind, none_bind, some_bind, sum_bind, bind_bind, Sum.elim_inl, Sum.elim_inr]
def class_First_g : Pure := fun R l b K => noBox b (args2 (.int .i64) .str l (fun x0 x1 => (class_First x0 x1).bind fun r => K [.dat (.int .i64) r []] none))
theorem class_First_n : class_First_g.Nat := fun R S l b F G K h => noBox_nat (args2_nat fun _ _ => bindr_nat fun _ => h _ _)
def Tb24 : Funs := Tb23.add 74 [(.int .i64), .str] class_First_g
theorem Tb24_nat : Tb24.Nat := add_nat Tb23_nat class_First_n
theorem Tb24_owes : ∀ f, Owes Tryz.prog Tb24 f := add_owes (E := class_First_E) (Tab.env_ok tab_ok _ _ _ _) mixed Tb23_nat Tb23_owes (fn := Tryz.f74) (code := class_First_c) Tryz.func74 (by kernel_rfl) (by kernel_rfl) fun l b r b' h => by
  obtain ⟨rfl, h⟩ := noBox_some h
  obtain ⟨x0, x1, h1, h2⟩ := own2 (E := class_First_E) rfl h
  exact ⟨FUEL, (h2 _ _ _ _ _ _).trans ((class_First_eq _ x0 x1 _).trans h1)⟩
noncomputable abbrev tag_first_c : Code := Tryz.f101.body.getD .skip
def tag_first_E : Env := tab.env (fun _ => []) (fun _ => []) [] [(.int .i64)]
theorem tag_first_t (R : Type) (kk : Nat) (b_0 : Int) (K : List SV → Option Box → Option R) : evFn tag_first_E (Tb24 R) kk Tryz.f101 tag_first_c [.dat (.int .i64) b_0 []] none K =
  tag_first_s0 b_0 (fun a0 => K [.dat .bool a0 []] none) := by kernel_rfl
theorem tag_first_eq (R : Type) (b_0 : Int) (K : List SV → Option Box → Option R) : evFn tag_first_E (Tb24 R) FUEL Tryz.f101 tag_first_c [.dat (.int .i64) b_0 []] none K = (tag_first b_0).bind fun r => K [.dat .bool r []] none := by
  rw [tag_first_t]
  simp only [tag_first, tag_first_s0_bind, cond_bind, within_bind, none_bind, some_bind, sum_bind, bind_bind, Sum.elim_inl, Sum.elim_inr]
def tag_first_g : Pure := fun R l b K => noBox b (args1 (.int .i64) l (fun x0 => (tag_first x0).bind fun r => K [.dat .bool r []] none))
theorem tag_first_n : tag_first_g.Nat := fun R S l b F G K h => noBox_nat (args1_nat fun _ => bindr_nat fun _ => h _ _)
def Tb25 : Funs := Tb24.add 101 [(.int .i64)] tag_first_g
theorem Tb25_nat : Tb25.Nat := add_nat Tb24_nat tag_first_n
theorem Tb25_owes : ∀ f, Owes Tryz.prog Tb25 f := add_owes (E := tag_first_E) (Tab.env_ok tab_ok _ _ _ _) mixed Tb24_nat Tb24_owes (fn := Tryz.f101) (code := tag_first_c) Tryz.func101 (by kernel_rfl) (by kernel_rfl) fun l b r b' h => by
  obtain ⟨rfl, h⟩ := noBox_some h
  obtain ⟨x0, h1, h2⟩ := own1 (E := tag_first_E) rfl h
  exact ⟨FUEL, (h2 _ _ _ _ _ _).trans ((tag_first_eq _ x0 _).trans h1)⟩
noncomputable abbrev tag_Right_c : Code := Tryz.f102.body.getD .skip
def tag_Right_E : Env := tab.env (fun _ => []) (fun _ => []) [] [(.int .i64)]
theorem tag_Right_t (R : Type) (kk : Nat) (tag_0 : Int) (K : List SV → Option Box → Option R) : evFn tag_Right_E (Tb25 R) kk Tryz.f102 tag_Right_c [.dat (.int .i64) tag_0 []] none K =
  tag_Right_s0 tag_0 (fun a0 => K [.dat .bool a0 []] none) := by kernel_rfl
theorem tag_Right_eq (R : Type) (tag_0 : Int) (K : List SV → Option Box → Option R) : evFn tag_Right_E (Tb25 R) FUEL Tryz.f102 tag_Right_c [.dat (.int .i64) tag_0 []] none K = (tag_Right tag_0).bind fun r => K [.dat .bool r []] none := by
  rw [tag_Right_t]
  simp only [tag_Right, tag_Right_s0_bind, cond_bind, within_bind, none_bind, some_bind, sum_bind, bind_bind, Sum.elim_inl, Sum.elim_inr]
def tag_Right_g : Pure := fun R l b K => noBox b (args1 (.int .i64) l (fun x0 => (tag_Right x0).bind fun r => K [.dat .bool r []] none))
theorem tag_Right_n : tag_Right_g.Nat := fun R S l b F G K h => noBox_nat (args1_nat fun _ => bindr_nat fun _ => h _ _)
def Tb26 : Funs := Tb25.add 102 [(.int .i64)] tag_Right_g
theorem Tb26_nat : Tb26.Nat := add_nat Tb25_nat tag_Right_n
theorem Tb26_owes : ∀ f, Owes Tryz.prog Tb26 f := add_owes (E := tag_Right_E) (Tab.env_ok tab_ok _ _ _ _) mixed Tb25_nat Tb25_owes (fn := Tryz.f102) (code := tag_Right_c) Tryz.func102 (by kernel_rfl) (by kernel_rfl) fun l b r b' h => by
  obtain ⟨rfl, h⟩ := noBox_some h
  obtain ⟨x0, h1, h2⟩ := own1 (E := tag_Right_E) rfl h
  exact ⟨FUEL, (h2 _ _ _ _ _ _).trans ((tag_Right_eq _ x0 _).trans h1)⟩
noncomputable abbrev tag_Get_c : Code := Tryz.f85.body.getD .skip
def tag_Get_E : Env := tab.env (fun _ => []) (fun _ => []) [] [.str, (.int .i64)]
theorem tag_Get_t (R : Type) (kk : Nat) (b_0 : ByteArray) (at_1 : Int) (K : List SV → Option Box → Option R) : evFn tag_Get_E (Tb26 R) kk Tryz.f85 tag_Get_c [.dat .str b_0 [], .dat (.int .i64) at_1 []] none K =
  tag_Get_s0 b_0 at_1 (fun a0 a1 a2 => K [.dat (.int .i64) a0 [], .dat (.int .i64) a1 [], .dat (.int .i64) a2 []] none) := by kernel_rfl
theorem tag_Get_eq (R : Type) (b_0 : ByteArray) (at_1 : Int) (K : List SV → Option Box → Option R) : evFn tag_Get_E (Tb26 R) FUEL Tryz.f85 tag_Get_c [.dat .str b_0 [], .dat (.int .i64) at_1 []] none K = (tag_Get b_0 at_1).bind fun r => K [.dat (.int .i64) r.1 [], .dat (.int .i64) r.2.1 [], .dat (.int .i64) r.2.2 []] none := by
  rw [tag_Get_t]
  simp only [tag_Get, tag_Get_s0_bind, cond_bind, within_bind, none_bind, some_bind, sum_bind, bind_bind, Sum.elim_inl, Sum.elim_inr]
def tag_Get_g : Pure := fun R l b K => noBox b (args2 .str (.int .i64) l (fun x0 x1 => (tag_Get x0 x1).bind fun r => K [.dat (.int .i64) r.1 [], .dat (.int .i64) r.2.1 [], .dat (.int .i64) r.2.2 []] none))
theorem tag_Get_n : tag_Get_g.Nat := fun R S l b F G K h => noBox_nat (args2_nat fun _ _ => bindr_nat fun _ => h _ _)
def Tb27 : Funs := Tb26.add 85 [.str, (.int .i64)] tag_Get_g
theorem Tb27_nat : Tb27.Nat := add_nat Tb26_nat tag_Get_n
theorem Tb27_owes : ∀ f, Owes Tryz.prog Tb27 f := add_owes (E := tag_Get_E) (Tab.env_ok tab_ok _ _ _ _) mixed Tb26_nat Tb26_owes (fn := Tryz.f85) (code := tag_Get_c) Tryz.func85 (by kernel_rfl) (by kernel_rfl) fun l b r b' h => by
  obtain ⟨rfl, h⟩ := noBox_some h
  obtain ⟨x0, x1, h1, h2⟩ := own2 (E := tag_Get_E) rfl h
  exact ⟨FUEL, (h2 _ _ _ _ _ _).trans ((tag_Get_eq _ x0 x1 _).trans h1)⟩
noncomputable abbrev ber_Size_c : Code := Tryz.f103.body.getD .skip
def ber_Size_E : Env := tab.env (fun _ => []) (fun _ => []) [] [(.int .i64)]
theorem ber_Size_t (R : Type) (kk : Nat) (n_0 : Int) (K : List SV → Option Box → Option R) : evFn ber_Size_E (Tb27 R) kk Tryz.f103 ber_Size_c [.dat (.int .i64) n_0 []] none K =
  ber_Size_s0 n_0 (fun a0 => K [.dat (.int .i64) a0 []] none) := by kernel_rfl
theorem ber_Size_eq (R : Type) (n_0 : Int) (K : List SV → Option Box → Option R) : evFn ber_Size_E (Tb27 R) FUEL Tryz.f103 ber_Size_c [.dat (.int .i64) n_0 []] none K = (ber_Size n_0).bind fun r => K [.dat (.int .i64) r []] none := by
  rw [ber_Size_t]
  simp only [ber_Size, ber_Size_s0_bind, cond_bind, within_bind, none_bind, some_bind, sum_bind, bind_bind, Sum.elim_inl, Sum.elim_inr]
def ber_Size_g : Pure := fun R l b K => noBox b (args1 (.int .i64) l (fun x0 => (ber_Size x0).bind fun r => K [.dat (.int .i64) r []] none))
theorem ber_Size_n : ber_Size_g.Nat := fun R S l b F G K h => noBox_nat (args1_nat fun _ => bindr_nat fun _ => h _ _)
def Tb28 : Funs := Tb27.add 103 [(.int .i64)] ber_Size_g
theorem Tb28_nat : Tb28.Nat := add_nat Tb27_nat ber_Size_n
theorem Tb28_owes : ∀ f, Owes Tryz.prog Tb28 f := add_owes (E := ber_Size_E) (Tab.env_ok tab_ok _ _ _ _) mixed Tb27_nat Tb27_owes (fn := Tryz.f103) (code := ber_Size_c) Tryz.func103 (by kernel_rfl) (by kernel_rfl) fun l b r b' h => by
  obtain ⟨rfl, h⟩ := noBox_some h
  obtain ⟨x0, h1, h2⟩ := own1 (E := ber_Size_E) rfl h
  exact ⟨FUEL, (h2 _ _ _ _ _ _).trans ((ber_Size_eq _ x0 _).trans h1)⟩
noncomputable abbrev ber_Get_c : Code := Tryz.f86.body.getD .skip
def ber_Get_E : Env := tab.env (fun i => bif Nat.beq i 14 then [0, 1, 7, 8, 44, 45] else []) (fun i => bif Nat.beq i 14 then [1, 7, 8] else []) [] [.str, (.int .i64)]
def ber_Get_h0 (b_0 : ByteArray) (at_1 : Int) (t7 : Int) (t8 : Int) (t44 : Int) (t45 : Int) : State := ⟨[.dat .str b_0 []]::[.dat (.int .i64) at_1 []]::(uS 5 ([.dat (.int .i64) t7 []]::[.dat (.int .i64) t8 []]::(uS 35 ([.dat (.int .i64) t44 []]::[.dat (.int .i64) t45 []]::(uS 21 ([])))))), nS 68 []⟩
def ber_Get_x0_0 (at_1 : Int) (t7 : Int) (t8 : Int) : State := ⟨uS 1 ([.dat (.int .i64) at_1 []]::(uS 5 ([.dat (.int .i64) t7 []]::[.dat (.int .i64) t8 []]::(uS 58 ([]))))), nS 68 []⟩
theorem ber_Get_t (R : Type) (kk : Nat) (b_0 : ByteArray) (at_1 : Int) (K : List SV → Option Box → Option R) : evFn ber_Get_E (Tb28 R) kk Tryz.f86 ber_Get_c [.dat .str b_0 [], .dat (.int .i64) at_1 []] none K =
  ber_Get_s0 b_0 at_1 (fun a0 a1 a2 => K [.dat (.int .i64) a0 [], .dat (.int .i64) a1 [], .dat (.int .i64) a2 []] none) (fun a0 a1 a2 a3 a4 a5 => loopR (ev ber_Get_E (Tb28 R) kk (sub [1, 1, 1, 1, 1, 1, 1, 0, 1, 0, 0] ber_Get_c)) [0, 1, 7, 8, 44, 45] [1, 7, 8] kk (ber_Get_h0 a0 a1 a2 a3 a4 a5) (kBlock 0 (kSeq ber_Get_E (Tb28 R) kk (sub [1, 1, 1, 1, 1, 1, 1, 1] ber_Get_c) (kFin ber_Get_E Tryz.f86.results.toList none K)))) := by kernel_rfl
theorem ber_Get_d0 (R : Type) (kk k : Nat) (b_0 : ByteArray) (at_1 : Int) (t7 : Int) (t8 : Int) (t44 : Int) (t45 : Int) (K : Ex → State → Option R) : loopR (ev ber_Get_E (Tb28 R) kk (sub [1, 1, 1, 1, 1, 1, 1, 0, 1, 0, 0] ber_Get_c)) [0, 1, 7, 8, 44, 45] [1, 7, 8] (k + 1) (ber_Get_h0 b_0 at_1 t7 t8 t44 t45) K =
  ber_Get_s1 b_0 at_1 t7 t8 t44 t45 (fun a0 a1 a2 a3 a4 a5 => loopR (ev ber_Get_E (Tb28 R) kk (sub [1, 1, 1, 1, 1, 1, 1, 0, 1, 0, 0] ber_Get_c)) [0, 1, 7, 8, 44, 45] [1, 7, 8] k (ber_Get_h0 a0 a1 a2 a3 a4 a5) K) (fun a0 a1 a2 => K (.exit 0) (ber_Get_x0_0 a0 a1 a2)) := by kernel_rfl
theorem ber_Get_y0_0 (R : Type) (kk : Nat) (at_1 : Int) (t7 : Int) (t8 : Int) (K : List SV → Option Box → Option R) : (kBlock 0 (kSeq ber_Get_E (Tb28 R) kk (sub [1, 1, 1, 1, 1, 1, 1, 1] ber_Get_c) (kFin ber_Get_E Tryz.f86.results.toList none K))) (.exit 0) (ber_Get_x0_0 at_1 t7 t8) =
  ber_Get_s2 at_1 t7 t8 (fun a0 a1 a2 => K [.dat (.int .i64) a0 [], .dat (.int .i64) a1 [], .dat (.int .i64) a2 []] none) := by kernel_rfl
theorem ber_Get_lp0 (R : Type) (k : Nat) (b_0 : ByteArray) (at_1 : Int) (t7 : Int) (t8 : Int) (t44 : Int) (t45 : Int) (K : Ex → State → Option R) : loopR (ev ber_Get_E (Tb28 R) FUEL (sub [1, 1, 1, 1, 1, 1, 1, 0, 1, 0, 0] ber_Get_c)) [0, 1, 7, 8, 44, 45] [1, 7, 8] k (ber_Get_h0 b_0 at_1 t7 t8 t44 t45) K = (ber_Get_l0 k b_0 at_1 t7 t8 t44 t45).bind fun e => K (.exit 0) (ber_Get_x0_0 e.1 e.2.1 e.2.2) := by
  induction k generalizing b_0 at_1 t7 t8 t44 t45 with
  | zero => rfl
  | succ k ih =>
    rw [ber_Get_d0]
    simp only [ber_Get_l0, ber_Get_s0_bind, ber_Get_s1_bind, ber_Get_s2_bind, ih, cond_bind, within_bind, none_bind, some_bind, sum_bind, bind_bind, Sum.elim_inl, Sum.elim_inr]
theorem ber_Get_eq (R : Type) (b_0 : ByteArray) (at_1 : Int) (K : List SV → Option Box → Option R) : evFn ber_Get_E (Tb28 R) FUEL Tryz.f86 ber_Get_c [.dat .str b_0 [], .dat (.int .i64) at_1 []] none K = (ber_Get b_0 at_1).bind fun r => K [.dat (.int .i64) r.1 [], .dat (.int .i64) r.2.1 [], .dat (.int .i64) r.2.2 []] none := by
  rw [ber_Get_t]
  simp only [ber_Get, ber_Get_s0_bind, ber_Get_s1_bind, ber_Get_s2_bind, ber_Get_lp0, ber_Get_y0_0, cond_bind, within_bind, none_bind, some_bind, sum_bind, bind_bind, Sum.elim_inl, Sum.elim_inr]
def ber_Get_g : Pure := fun R l b K => noBox b (args2 .str (.int .i64) l (fun x0 x1 => (ber_Get x0 x1).bind fun r => K [.dat (.int .i64) r.1 [], .dat (.int .i64) r.2.1 [], .dat (.int .i64) r.2.2 []] none))
theorem ber_Get_n : ber_Get_g.Nat := fun R S l b F G K h => noBox_nat (args2_nat fun _ _ => bindr_nat fun _ => h _ _)
def Tb29 : Funs := Tb28.add 86 [.str, (.int .i64)] ber_Get_g
theorem Tb29_nat : Tb29.Nat := add_nat Tb28_nat ber_Get_n
theorem Tb29_owes : ∀ f, Owes Tryz.prog Tb29 f := add_owes (E := ber_Get_E) (Tab.env_ok tab_ok _ _ _ _) mixed Tb28_nat Tb28_owes (fn := Tryz.f86) (code := ber_Get_c) Tryz.func86 (by kernel_rfl) (by kernel_rfl) fun l b r b' h => by
  obtain ⟨rfl, h⟩ := noBox_some h
  obtain ⟨x0, x1, h1, h2⟩ := own2 (E := ber_Get_E) rfl h
  exact ⟨FUEL, (h2 _ _ _ _ _ _).trans ((ber_Get_eq _ x0 x1 _).trans h1)⟩
noncomputable abbrev tlv_Get_c : Code := Tryz.f75.body.getD .skip
def tlv_Get_E : Env := tab.env (fun i => bif Nat.beq i 4 then [0, 5, 6, 7, 13] else []) (fun i => bif Nat.beq i 4 then [2, 3, 4, 5] else []) [] [.str]
def tlv_Get_h0 (b_0 : ByteArray) (t5 : Zt9) (t7 : Int) (bt6 : Zt5) : State := ⟨[.dat .str b_0 []]::(uS 4 ([.dat (.sl 128 (.pair (.int .i64) (.pair .str .unit))) t5 [[]]]::[.ptr 14 (.spc .mp (.int .i64) .bool) []]::[.dat (.int .i64) t7 []]::(uS 5 ([.ptr 14 (.spc .mp (.int .i64) .bool) []]::(uS 58 ([])))))), nS 14 ((some ⟨(.spc .mp (.int .i64) .bool), bt6, []⟩)::(nS 58 ([])))⟩
def tlv_Get_x0_0 (t2 : Zt9) (t3 : Int) (t4 : Int) (t5 : Zt9) : State := ⟨uS 2 ([.dat (.sl 128 (.pair (.int .i64) (.pair .str .unit))) t2 [[]]]::[.dat (.int .i64) t3 []]::[.dat (.int .i64) t4 []]::[.dat (.sl 128 (.pair (.int .i64) (.pair .str .unit))) t5 [[]]]::(uS 66 ([]))), nS 73 []⟩
def tlv_Get_x0_1 (t5 : Zt9) : State := ⟨uS 5 ([.dat (.sl 128 (.pair (.int .i64) (.pair .str .unit))) t5 [[]]]::(uS 66 ([]))), nS 73 []⟩
theorem tlv_Get_t (R : Type) (kk : Nat) (b_0 : ByteArray) (K : List SV → Option Box → Option R) : evFn tlv_Get_E (Tb29 R) kk Tryz.f75 tlv_Get_c [.dat .str b_0 []] none K =
  tlv_Get_s0 b_0 (fun a0 a1 a2 a3 => loopR (ev tlv_Get_E (Tb29 R) kk (sub [1, 1, 1, 0, 1, 0, 0] tlv_Get_c)) [0, 5, 6, 7, 13] [2, 3, 4, 5] kk (tlv_Get_h0 a0 a1 a2 a3) (kBlock 0 (kSeq tlv_Get_E (Tb29 R) kk (sub [1, 1, 1, 1] tlv_Get_c) (kFin tlv_Get_E Tryz.f75.results.toList none K)))) := by kernel_rfl
theorem tlv_Get_d0 (R : Type) (kk k : Nat) (b_0 : ByteArray) (t5 : Zt9) (t7 : Int) (bt6 : Zt5) (K : Ex → State → Option R) : loopR (ev tlv_Get_E (Tb29 R) kk (sub [1, 1, 1, 0, 1, 0, 0] tlv_Get_c)) [0, 5, 6, 7, 13] [2, 3, 4, 5] (k + 1) (tlv_Get_h0 b_0 t5 t7 bt6) K =
  tlv_Get_s1 b_0 t5 t7 bt6 (fun a0 a1 a2 a3 => K .ret (tlv_Get_x0_0 a0 a1 a2 a3)) (fun a0 a1 a2 a3 => loopR (ev tlv_Get_E (Tb29 R) kk (sub [1, 1, 1, 0, 1, 0, 0] tlv_Get_c)) [0, 5, 6, 7, 13] [2, 3, 4, 5] k (tlv_Get_h0 a0 a1 a2 a3) K) (fun a0 => K (.exit 0) (tlv_Get_x0_1 a0)) := by kernel_rfl
theorem tlv_Get_y0_0 (R : Type) (kk : Nat) (t2 : Zt9) (t3 : Int) (t4 : Int) (t5 : Zt9) (K : List SV → Option Box → Option R) : (kBlock 0 (kSeq tlv_Get_E (Tb29 R) kk (sub [1, 1, 1, 1] tlv_Get_c) (kFin tlv_Get_E Tryz.f75.results.toList none K))) .ret (tlv_Get_x0_0 t2 t3 t4 t5) =
  tlv_Get_s2 t2 t3 t4 t5 (fun a0 a1 a2 => K [.dat (.sl 128 (.pair (.int .i64) (.pair .str .unit))) a0 [[]], .dat (.int .i64) a1 [], .dat (.int .i64) a2 []] none) := by kernel_rfl
theorem tlv_Get_y0_1 (R : Type) (kk : Nat) (t5 : Zt9) (K : List SV → Option Box → Option R) : (kBlock 0 (kSeq tlv_Get_E (Tb29 R) kk (sub [1, 1, 1, 1] tlv_Get_c) (kFin tlv_Get_E Tryz.f75.results.toList none K))) (.exit 0) (tlv_Get_x0_1 t5) =
  tlv_Get_s3 t5 (fun a0 a1 a2 => K [.dat (.sl 128 (.pair (.int .i64) (.pair .str .unit))) a0 [], .dat (.int .i64) a1 [], .dat (.int .i64) a2 []] none) := by kernel_rfl
theorem tlv_Get_lp0 (R : Type) (k : Nat) (b_0 : ByteArray) (t5 : Zt9) (t7 : Int) (bt6 : Zt5) (K : Ex → State → Option R) : loopR (ev tlv_Get_E (Tb29 R) FUEL (sub [1, 1, 1, 0, 1, 0, 0] tlv_Get_c)) [0, 5, 6, 7, 13] [2, 3, 4, 5] k (tlv_Get_h0 b_0 t5 t7 bt6) K = (tlv_Get_l0 k b_0 t5 t7 bt6).bind fun e => (Sum.elim (fun (we : Zt19) => K .ret (tlv_Get_x0_0 we.1 we.2.1 we.2.2.1 we.2.2.2)) (fun (we : Zt9) => K (.exit 0) (tlv_Get_x0_1 we)) e) := by
  induction k generalizing b_0 t5 t7 bt6 with
  | zero => rfl
  | succ k ih =>
    rw [tlv_Get_d0]
    simp only [tlv_Get_l0, tlv_Get_s0_bind, tlv_Get_s1_bind, tlv_Get_s2_bind, tlv_Get_s3_bind, ih, cond_bind, within_bind, none_bind, some_bind, sum_bind, bind_bind, Sum.elim_inl, Sum.elim_inr]
theorem tlv_Get_eq (R : Type) (b_0 : ByteArray) (K : List SV → Option Box → Option R) : evFn tlv_Get_E (Tb29 R) FUEL Tryz.f75 tlv_Get_c [.dat .str b_0 []] none K = (tlv_Get b_0).bind fun r => (Sum.elim (fun (wr : Zt14) => K [.dat (.sl 128 (.pair (.int .i64) (.pair .str .unit))) wr.1 [[]], .dat (.int .i64) wr.2.1 [], .dat (.int .i64) wr.2.2 []] none) (fun (wr : Zt14) => K [.dat (.sl 128 (.pair (.int .i64) (.pair .str .unit))) wr.1 [], .dat (.int .i64) wr.2.1 [], .dat (.int .i64) wr.2.2 []] none) r) := by
  rw [tlv_Get_t]
  simp only [tlv_Get, tlv_Get_s0_bind, tlv_Get_s1_bind, tlv_Get_s2_bind, tlv_Get_s3_bind, tlv_Get_lp0, tlv_Get_y0_0, tlv_Get_y0_1, cond_bind, within_bind, none_bind, some_bind, sum_bind, bind_bind, Sum.elim_inl, Sum.elim_inr]
def tlv_Get_g : Pure := fun R l b K => noBox b (args1 .str l (fun x0 => (tlv_Get x0).bind fun r => (Sum.elim (fun (wr : Zt14) => K [.dat (.sl 128 (.pair (.int .i64) (.pair .str .unit))) wr.1 [[]], .dat (.int .i64) wr.2.1 [], .dat (.int .i64) wr.2.2 []] none) (fun (wr : Zt14) => K [.dat (.sl 128 (.pair (.int .i64) (.pair .str .unit))) wr.1 [], .dat (.int .i64) wr.2.1 [], .dat (.int .i64) wr.2.2 []] none) r)))
theorem tlv_Get_n : tlv_Get_g.Nat := fun R S l b F G K h => noBox_nat (args1_nat fun _ => bindr_nat fun _ => sum_nat (fun _ => h _ _) (fun _ => h _ _))
def Tb30 : Funs := Tb29.add 75 [.str] tlv_Get_g
theorem Tb30_nat : Tb30.Nat := add_nat Tb29_nat tlv_Get_n
theorem Tb30_owes : ∀ f, Owes Tryz.prog Tb30 f := add_owes (E := tlv_Get_E) (Tab.env_ok tab_ok _ _ _ _) mixed Tb29_nat Tb29_owes (fn := Tryz.f75) (code := tlv_Get_c) Tryz.func75 (by kernel_rfl) (by kernel_rfl) fun l b r b' h => by
  obtain ⟨rfl, h⟩ := noBox_some h
  obtain ⟨x0, h1, h2⟩ := own1 (E := tlv_Get_E) rfl h
  exact ⟨FUEL, (h2 _ _ _ _ _ _).trans ((tlv_Get_eq _ x0 _).trans h1)⟩
noncomputable abbrev spec_Value_c : Code := Tryz.f55.body.getD .skip
def spec_Value_E : Env := tab.env (fun _ => []) (fun _ => []) [] [y7, .str]
theorem spec_Value_t (R : Type) (kk : Nat) (s_0 : Zt11) (text_1 : ByteArray) (K : List SV → Option Box → Option R) : evFn spec_Value_E (Tb30 R) kk Tryz.f55 spec_Value_c [.dat y7 s_0 [], .dat .str text_1 []] none K =
  spec_Value_s0 s_0 text_1 (fun a0 => K [.dat (.int .i64) a0 []] none) := by kernel_rfl
theorem spec_Value_eq (R : Type) (s_0 : Zt11) (text_1 : ByteArray) (K : List SV → Option Box → Option R) : evFn spec_Value_E (Tb30 R) FUEL Tryz.f55 spec_Value_c [.dat y7 s_0 [], .dat .str text_1 []] none K = (spec_Value s_0 text_1).bind fun r => K [.dat (.int .i64) r []] none := by
  rw [spec_Value_t]
  simp only [spec_Value, spec_Value_s0_bind, cond_bind, within_bind, none_bind, some_bind, sum_bind, bind_bind, Sum.elim_inl, Sum.elim_inr]
def spec_Value_g : Pure := fun R l b K => noBox b (args2 y7 .str l (fun x0 x1 => (spec_Value x0 x1).bind fun r => K [.dat (.int .i64) r []] none))
theorem spec_Value_n : spec_Value_g.Nat := fun R S l b F G K h => noBox_nat (args2_nat fun _ _ => bindr_nat fun _ => h _ _)
def Tb31 : Funs := Tb30.add 55 [y7, .str] spec_Value_g
theorem Tb31_nat : Tb31.Nat := add_nat Tb30_nat spec_Value_n
theorem Tb31_owes : ∀ f, Owes Tryz.prog Tb31 f := add_owes (E := spec_Value_E) (Tab.env_ok tab_ok _ _ _ _) mixed Tb30_nat Tb30_owes (fn := Tryz.f55) (code := spec_Value_c) Tryz.func55 (by kernel_rfl) (by kernel_rfl) fun l b r b' h => by
  obtain ⟨rfl, h⟩ := noBox_some h
  obtain ⟨x0, x1, h1, h2⟩ := own2 (E := spec_Value_E) rfl h
  exact ⟨FUEL, (h2 _ _ _ _ _ _).trans ((spec_Value_eq _ x0 x1 _).trans h1)⟩
noncomputable abbrev rule_padded_c : Code := Tryz.f65.body.getD .skip
def rule_padded_E : Env := tab.env (fun _ => []) (fun _ => []) [] [y7]
theorem rule_padded_t (R : Type) (kk : Nat) (s_0 : Zt11) (K : List SV → Option Box → Option R) : evFn rule_padded_E (Tb31 R) kk Tryz.f65 rule_padded_c [.dat y7 s_0 []] none K =
  rule_padded_s0 s_0 (fun a0 => K [.dat .bool a0 []] none) := by kernel_rfl
theorem rule_padded_eq (R : Type) (s_0 : Zt11) (K : List SV → Option Box → Option R) : evFn rule_padded_E (Tb31 R) FUEL Tryz.f65 rule_padded_c [.dat y7 s_0 []] none K = (rule_padded s_0).bind fun r => K [.dat .bool r []] none := by
  rw [rule_padded_t]
  simp only [rule_padded, rule_padded_s0_bind, cond_bind, within_bind, none_bind, some_bind, sum_bind, bind_bind, Sum.elim_inl, Sum.elim_inr]
def rule_padded_g : Pure := fun R l b K => noBox b (args1 y7 l (fun x0 => (rule_padded x0).bind fun r => K [.dat .bool r []] none))
theorem rule_padded_n : rule_padded_g.Nat := fun R S l b F G K h => noBox_nat (args1_nat fun _ => bindr_nat fun _ => h _ _)
def Tb32 : Funs := Tb31.add 65 [y7] rule_padded_g
theorem Tb32_nat : Tb32.Nat := add_nat Tb31_nat rule_padded_n
theorem Tb32_owes : ∀ f, Owes Tryz.prog Tb32 f := add_owes (E := rule_padded_E) (Tab.env_ok tab_ok _ _ _ _) mixed Tb31_nat Tb31_owes (fn := Tryz.f65) (code := rule_padded_c) Tryz.func65 (by kernel_rfl) (by kernel_rfl) fun l b r b' h => by
  obtain ⟨rfl, h⟩ := noBox_some h
  obtain ⟨x0, h1, h2⟩ := own1 (E := rule_padded_E) rfl h
  exact ⟨FUEL, (h2 _ _ _ _ _ _).trans ((rule_padded_eq _ x0 _).trans h1)⟩
noncomputable abbrev codes_Check_c : Code := Tryz.f46.body.getD .skip
def codes_Check_E : Env := tab.env (fun i => bif Nat.beq i 5 then [4, 10, 11, 12, 13] else []) (fun i => bif Nat.beq i 5 then [2, 3] else []) [] [(.sl 42 (.pair .str (.pair .str .unit)))]
def codes_Check_h0 (t11 : Zt12) (t12 : Int) (t13 : Int) (bt4 : Zt7) : State := ⟨uS 4 ([.ptr 11 (.spc .mp .str .bool) []]::(uS 5 ([.ptr 11 (.spc .mp .str .bool) []]::[.dat (.sl 42 (.pair .str (.pair .str .unit))) t11 []]::[.dat (.int .i64) t12 []]::[.dat (.int .i64) t13 []]::(uS 13 ([]))))), nS 11 ((some ⟨(.spc .mp .str .bool), bt4, []⟩)::(nS 16 ([])))⟩
def codes_Check_x0_0 (t2 : Int) (t3 : Int) : State := ⟨uS 2 ([.dat (.int .i64) t2 []]::[.dat (.int .i64) t3 []]::(uS 23 ([]))), nS 28 []⟩
def codes_Check_x0_1  : State := ⟨uS 27 [], nS 28 []⟩
theorem codes_Check_t (R : Type) (kk : Nat) (l_0 : Zt12) (K : List SV → Option Box → Option R) : evFn codes_Check_E (Tb32 R) kk Tryz.f46 codes_Check_c [.dat (.sl 42 (.pair .str (.pair .str .unit))) l_0 []] none K =
  codes_Check_s0 l_0 (fun a0 a1 => K [.dat (.int .i64) a0 [], .dat (.int .i64) a1 []] none) (fun a0 a1 a2 a3 => loopR (ev codes_Check_E (Tb32 R) kk (sub [1, 1, 1, 0, 1, 0, 0] codes_Check_c)) [4, 10, 11, 12, 13] [2, 3] kk (codes_Check_h0 a0 a1 a2 a3) (kBlock 0 (kSeq codes_Check_E (Tb32 R) kk (sub [1, 1, 1, 1] codes_Check_c) (kFin codes_Check_E Tryz.f46.results.toList none K)))) := by kernel_rfl
theorem codes_Check_d0 (R : Type) (kk k : Nat) (t11 : Zt12) (t12 : Int) (t13 : Int) (bt4 : Zt7) (K : Ex → State → Option R) : loopR (ev codes_Check_E (Tb32 R) kk (sub [1, 1, 1, 0, 1, 0, 0] codes_Check_c)) [4, 10, 11, 12, 13] [2, 3] (k + 1) (codes_Check_h0 t11 t12 t13 bt4) K =
  codes_Check_s1 t11 t12 t13 bt4 (fun a0 a1 => K .ret (codes_Check_x0_0 a0 a1)) (fun a0 a1 a2 a3 => loopR (ev codes_Check_E (Tb32 R) kk (sub [1, 1, 1, 0, 1, 0, 0] codes_Check_c)) [4, 10, 11, 12, 13] [2, 3] k (codes_Check_h0 a0 a1 a2 a3) K) (K (.exit 0) (codes_Check_x0_1)) := by kernel_rfl
theorem codes_Check_y0_0 (R : Type) (kk : Nat) (t2 : Int) (t3 : Int) (K : List SV → Option Box → Option R) : (kBlock 0 (kSeq codes_Check_E (Tb32 R) kk (sub [1, 1, 1, 1] codes_Check_c) (kFin codes_Check_E Tryz.f46.results.toList none K))) .ret (codes_Check_x0_0 t2 t3) =
  codes_Check_s2 t2 t3 (fun a0 a1 => K [.dat (.int .i64) a0 [], .dat (.int .i64) a1 []] none) := by kernel_rfl
theorem codes_Check_y0_1 (R : Type) (kk : Nat)  (K : List SV → Option Box → Option R) : (kBlock 0 (kSeq codes_Check_E (Tb32 R) kk (sub [1, 1, 1, 1] codes_Check_c) (kFin codes_Check_E Tryz.f46.results.toList none K))) (.exit 0) (codes_Check_x0_1) =
  codes_Check_s3 (fun a0 a1 => K [.dat (.int .i64) a0 [], .dat (.int .i64) a1 []] none) := by kernel_rfl
theorem codes_Check_lp0 (R : Type) (k : Nat) (t11 : Zt12) (t12 : Int) (t13 : Int) (bt4 : Zt7) (K : Ex → State → Option R) : loopR (ev codes_Check_E (Tb32 R) FUEL (sub [1, 1, 1, 0, 1, 0, 0] codes_Check_c)) [4, 10, 11, 12, 13] [2, 3] k (codes_Check_h0 t11 t12 t13 bt4) K = (codes_Check_l0 k t11 t12 t13 bt4).bind fun e => (Sum.elim (fun (we : (Int × Int)) => K .ret (codes_Check_x0_0 we.1 we.2)) (fun (we : Unit) => K (.exit 0) (codes_Check_x0_1)) e) := by
  induction k generalizing t11 t12 t13 bt4 with
  | zero => rfl
  | succ k ih =>
    rw [codes_Check_d0]
    simp only [codes_Check_l0, codes_Check_s0_bind, codes_Check_s1_bind, codes_Check_s2_bind, codes_Check_s3_bind, ih, cond_bind, within_bind, none_bind, some_bind, sum_bind, bind_bind, Sum.elim_inl, Sum.elim_inr]
theorem codes_Check_eq (R : Type) (l_0 : Zt12) (K : List SV → Option Box → Option R) : evFn codes_Check_E (Tb32 R) FUEL Tryz.f46 codes_Check_c [.dat (.sl 42 (.pair .str (.pair .str .unit))) l_0 []] none K = (codes_Check l_0).bind fun r => K [.dat (.int .i64) r.1 [], .dat (.int .i64) r.2 []] none := by
  rw [codes_Check_t]
  simp only [codes_Check, codes_Check_s0_bind, codes_Check_s1_bind, codes_Check_s2_bind, codes_Check_s3_bind, codes_Check_lp0, codes_Check_y0_0, codes_Check_y0_1, cond_bind, within_bind, none_bind, some_bind, sum_bind, bind_bind, Sum.elim_inl, Sum.elim_inr]
def codes_Check_g : Pure := fun R l b K => noBox b (args1 (.sl 42 (.pair .str (.pair .str .unit))) l (fun x0 => (codes_Check x0).bind fun r => K [.dat (.int .i64) r.1 [], .dat (.int .i64) r.2 []] none))
theorem codes_Check_n : codes_Check_g.Nat := fun R S l b F G K h => noBox_nat (args1_nat fun _ => bindr_nat fun _ => h _ _)
def Tb33 : Funs := Tb32.add 46 [(.sl 42 (.pair .str (.pair .str .unit)))] codes_Check_g
theorem Tb33_nat : Tb33.Nat := add_nat Tb32_nat codes_Check_n
theorem Tb33_owes : ∀ f, Owes Tryz.prog Tb33 f := add_owes (E := codes_Check_E) (Tab.env_ok tab_ok _ _ _ _) mixed Tb32_nat Tb32_owes (fn := Tryz.f46) (code := codes_Check_c) Tryz.func46 (by kernel_rfl) (by kernel_rfl) fun l b r b' h => by
  obtain ⟨rfl, h⟩ := noBox_some h
  obtain ⟨x0, h1, h2⟩ := own1 (E := codes_Check_E) rfl h
  exact ⟨FUEL, (h2 _ _ _ _ _ _).trans ((codes_Check_eq _ x0 _).trans h1)⟩
noncomputable abbrev rule_table_c : Code := Tryz.f66.body.getD .skip
def rule_table_E : Env := tab.env (fun i => bif Nat.beq i 5 then [4, 5, 25, 26, 27] else []) (fun i => bif Nat.beq i 5 then [6] else []) [] [(.sl 42 (.pair .str (.pair .str .unit))), y7, y7]
def rule_table_h0 (t25 : Zt12) (t26 : Int) (t27 : Int) (bt4 : Zt11) (bt5 : Zt11) : State := ⟨uS 4 ([.ptr 5 y7 []]::[.ptr 6 y7 []]::(uS 19 ([.dat (.sl 42 (.pair .str (.pair .str .unit))) t25 []]::[.dat (.int .i64) t26 []]::[.dat (.int .i64) t27 []]::(uS 18 ([]))))), nS 5 ((some ⟨y7, bt4, []⟩)::(some ⟨y7, bt5, []⟩)::(nS 40 ([])))⟩
def rule_table_x0_0 (t6 : Int) : State := ⟨uS 6 ([.dat (.int .i64) t6 []]::(uS 39 ([]))), nS 47 []⟩
def rule_table_x0_1  : State := ⟨uS 46 [], nS 47 []⟩
theorem rule_table_t (R : Type) (kk : Nat) (l_0 : Zt12) (from_1 : Zt11) (to_2 : Zt11) (K : List SV → Option Box → Option R) : evFn rule_table_E (Tb33 R) kk Tryz.f66 rule_table_c [.dat (.sl 42 (.pair .str (.pair .str .unit))) l_0 [], .dat y7 from_1 [], .dat y7 to_2 []] none K =
  rule_table_s0 l_0 from_1 to_2 (fun a0 => K [.dat (.int .i64) a0 []] none) (fun a0 a1 a2 a3 a4 => loopR (ev rule_table_E (Tb33 R) kk (sub [1, 1, 0, 1, 0, 0] rule_table_c)) [4, 5, 25, 26, 27] [6] kk (rule_table_h0 a0 a1 a2 a3 a4) (kBlock 0 (kSeq rule_table_E (Tb33 R) kk (sub [1, 1, 1] rule_table_c) (kFin rule_table_E Tryz.f66.results.toList none K)))) := by kernel_rfl
theorem rule_table_d0 (R : Type) (kk k : Nat) (t25 : Zt12) (t26 : Int) (t27 : Int) (bt4 : Zt11) (bt5 : Zt11) (K : Ex → State → Option R) : loopR (ev rule_table_E (Tb33 R) kk (sub [1, 1, 0, 1, 0, 0] rule_table_c)) [4, 5, 25, 26, 27] [6] (k + 1) (rule_table_h0 t25 t26 t27 bt4 bt5) K =
  rule_table_s1 t25 t26 t27 bt4 bt5 (fun a0 => K .ret (rule_table_x0_0 a0)) (fun a0 a1 a2 a3 a4 => loopR (ev rule_table_E (Tb33 R) kk (sub [1, 1, 0, 1, 0, 0] rule_table_c)) [4, 5, 25, 26, 27] [6] k (rule_table_h0 a0 a1 a2 a3 a4) K) (K (.exit 0) (rule_table_x0_1)) := by kernel_rfl
theorem rule_table_y0_0 (R : Type) (kk : Nat) (t6 : Int) (K : List SV → Option Box → Option R) : (kBlock 0 (kSeq rule_table_E (Tb33 R) kk (sub [1, 1, 1] rule_table_c) (kFin rule_table_E Tryz.f66.results.toList none K))) .ret (rule_table_x0_0 t6) =
  rule_table_s2 t6 (fun a0 => K [.dat (.int .i64) a0 []] none) := by kernel_rfl
theorem rule_table_y0_1 (R : Type) (kk : Nat)  (K : List SV → Option Box → Option R) : (kBlock 0 (kSeq rule_table_E (Tb33 R) kk (sub [1, 1, 1] rule_table_c) (kFin rule_table_E Tryz.f66.results.toList none K))) (.exit 0) (rule_table_x0_1) =
  rule_table_s3 (fun a0 => K [.dat (.int .i64) a0 []] none) := by kernel_rfl
theorem rule_table_lp0 (R : Type) (k : Nat) (t25 : Zt12) (t26 : Int) (t27 : Int) (bt4 : Zt11) (bt5 : Zt11) (K : Ex → State → Option R) : loopR (ev rule_table_E (Tb33 R) FUEL (sub [1, 1, 0, 1, 0, 0] rule_table_c)) [4, 5, 25, 26, 27] [6] k (rule_table_h0 t25 t26 t27 bt4 bt5) K = (rule_table_l0 k t25 t26 t27 bt4 bt5).bind fun e => (Sum.elim (fun (we : Int) => K .ret (rule_table_x0_0 we)) (fun (we : Unit) => K (.exit 0) (rule_table_x0_1)) e) := by
  induction k generalizing t25 t26 t27 bt4 bt5 with
  | zero => rfl
  | succ k ih =>
    rw [rule_table_d0]
    simp only [rule_table_l0, rule_table_s0_bind, rule_table_s1_bind, rule_table_s2_bind, rule_table_s3_bind, ih, cond_bind, within_bind, none_bind, some_bind, sum_bind, bind_bind, Sum.elim_inl, Sum.elim_inr]
theorem rule_table_eq (R : Type) (l_0 : Zt12) (from_1 : Zt11) (to_2 : Zt11) (K : List SV → Option Box → Option R) : evFn rule_table_E (Tb33 R) FUEL Tryz.f66 rule_table_c [.dat (.sl 42 (.pair .str (.pair .str .unit))) l_0 [], .dat y7 from_1 [], .dat y7 to_2 []] none K = (rule_table l_0 from_1 to_2).bind fun r => K [.dat (.int .i64) r []] none := by
  rw [rule_table_t]
  simp only [rule_table, rule_table_s0_bind, rule_table_s1_bind, rule_table_s2_bind, rule_table_s3_bind, rule_table_lp0, rule_table_y0_0, rule_table_y0_1, cond_bind, within_bind, none_bind, some_bind, sum_bind, bind_bind, Sum.elim_inl, Sum.elim_inr]
def rule_table_g : Pure := fun R l b K => noBox b (args3 (.sl 42 (.pair .str (.pair .str .unit))) y7 y7 l (fun x0 x1 x2 => (rule_table x0 x1 x2).bind fun r => K [.dat (.int .i64) r []] none))
theorem rule_table_n : rule_table_g.Nat := fun R S l b F G K h => noBox_nat (args3_nat fun _ _ _ => bindr_nat fun _ => h _ _)
def Tb34 : Funs := Tb33.add 66 [(.sl 42 (.pair .str (.pair .str .unit))), y7, y7] rule_table_g
theorem Tb34_nat : Tb34.Nat := add_nat Tb33_nat rule_table_n
theorem Tb34_owes : ∀ f, Owes Tryz.prog Tb34 f := add_owes (E := rule_table_E) (Tab.env_ok tab_ok _ _ _ _) mixed Tb33_nat Tb33_owes (fn := Tryz.f66) (code := rule_table_c) Tryz.func66 (by kernel_rfl) (by kernel_rfl) fun l b r b' h => by
  obtain ⟨rfl, h⟩ := noBox_some h
  obtain ⟨x0, x1, x2, h1, h2⟩ := own3 (E := rule_table_E) rfl h
  exact ⟨FUEL, (h2 _ _ _ _ _ _).trans ((rule_table_eq _ x0 x1 x2 _).trans h1)⟩
noncomputable abbrev rule_Check_c : Code := Tryz.f42.body.getD .skip
def rule_Check_E : Env := tab.env (fun _ => []) (fun _ => []) [] [y9, y13, y13]
theorem rule_Check_t (R : Type) (kk : Nat) (r_0 : Zt18) (a_1 : Zt16) (b_2 : Zt16) (K : List SV → Option Box → Option R) : evFn rule_Check_E (Tb34 R) kk Tryz.f42 rule_Check_c [.dat y9 r_0 [], .dat y13 a_1 [], .dat y13 b_2 []] none K =
  rule_Check_s0 r_0 a_1 b_2 (fun a0 => K [.dat (.int .i64) a0 []] none) := by kernel_rfl
theorem rule_Check_eq (R : Type) (r_0 : Zt18) (a_1 : Zt16) (b_2 : Zt16) (K : List SV → Option Box → Option R) : evFn rule_Check_E (Tb34 R) FUEL Tryz.f42 rule_Check_c [.dat y9 r_0 [], .dat y13 a_1 [], .dat y13 b_2 []] none K = (rule_Check r_0 a_1 b_2).bind fun r => K [.dat (.int .i64) r []] none := by
  rw [rule_Check_t]
  simp only [rule_Check, rule_Check_s0_bind, cond_bind, within_bind, none_bind, some_bind, sum_bind, bind_bind, Sum.elim_inl, Sum.elim_inr]
def rule_Check_g : Pure := fun R l b K => noBox b (args3 y9 y13 y13 l (fun x0 x1 x2 => (rule_Check x0 x1 x2).bind fun r => K [.dat (.int .i64) r []] none))
theorem rule_Check_n : rule_Check_g.Nat := fun R S l b F G K h => noBox_nat (args3_nat fun _ _ _ => bindr_nat fun _ => h _ _)
def Tb35 : Funs := Tb34.add 42 [y9, y13, y13] rule_Check_g
theorem Tb35_nat : Tb35.Nat := add_nat Tb34_nat rule_Check_n
theorem Tb35_owes : ∀ f, Owes Tryz.prog Tb35 f := add_owes (E := rule_Check_E) (Tab.env_ok tab_ok _ _ _ _) mixed Tb34_nat Tb34_owes (fn := Tryz.f42) (code := rule_Check_c) Tryz.func42 (by kernel_rfl) (by kernel_rfl) fun l b r b' h => by
  obtain ⟨rfl, h⟩ := noBox_some h
  obtain ⟨x0, x1, x2, h1, h2⟩ := own3 (E := rule_Check_E) rfl h
  exact ⟨FUEL, (h2 _ _ _ _ _ _).trans ((rule_Check_eq _ x0 x1 x2 _).trans h1)⟩
noncomputable abbrev fields_bit_c : Code := Tryz.f61.body.getD .skip
def fields_bit_E : Env := tab.env (fun _ => []) (fun _ => []) [2] [(.int .i64)]
theorem fields_bit_t (R : Type) (kk : Nat) (n_0 : Int) (K : List SV → Option Box → Option R) : evFn fields_bit_E (Tb35 R) kk Tryz.f61 fields_bit_c [.dat (.int .i64) n_0 []] none K =
  fields_bit_s0 n_0 (fun a0 => K [.dat (.pair (.int .u64) (.pair (.int .u64) .unit)) a0 []] none) := by kernel_rfl
theorem fields_bit_eq (R : Type) (n_0 : Int) (K : List SV → Option Box → Option R) : evFn fields_bit_E (Tb35 R) FUEL Tryz.f61 fields_bit_c [.dat (.int .i64) n_0 []] none K = (fields_bit n_0).bind fun r => K [.dat (.pair (.int .u64) (.pair (.int .u64) .unit)) r []] none := by
  rw [fields_bit_t]
  simp only [fields_bit, fields_bit_s0_bind, cond_bind, within_bind, none_bind, some_bind, sum_bind, bind_bind, Sum.elim_inl, Sum.elim_inr]
def fields_bit_g : Pure := fun R l b K => noBox b (args1 (.int .i64) l (fun x0 => (fields_bit x0).bind fun r => K [.dat (.pair (.int .u64) (.pair (.int .u64) .unit)) r []] none))
theorem fields_bit_n : fields_bit_g.Nat := fun R S l b F G K h => noBox_nat (args1_nat fun _ => bindr_nat fun _ => h _ _)
def Tb36 : Funs := Tb35.add 61 [(.int .i64)] fields_bit_g
theorem Tb36_nat : Tb36.Nat := add_nat Tb35_nat fields_bit_n
theorem Tb36_owes : ∀ f, Owes Tryz.prog Tb36 f := add_owes (E := fields_bit_E) (Tab.env_ok tab_ok _ _ _ _) mixed Tb35_nat Tb35_owes (fn := Tryz.f61) (code := fields_bit_c) Tryz.func61 (by kernel_rfl) (by kernel_rfl) fun l b r b' h => by
  obtain ⟨rfl, h⟩ := noBox_some h
  obtain ⟨x0, h1, h2⟩ := own1 (E := fields_bit_E) rfl h
  exact ⟨FUEL, (h2 _ _ _ _ _ _).trans ((fields_bit_eq _ x0 _).trans h1)⟩
noncomputable abbrev fields_Set_Either_c : Code := Tryz.f45.body.getD .skip
def fields_Set_Either_E : Env := tab.env (fun _ => []) (fun _ => []) [4] [(.pair (.int .u64) (.pair (.int .u64) .unit)), (.pair (.int .u64) (.pair (.int .u64) .unit))]
theorem fields_Set_Either_t (R : Type) (kk : Nat) (s_0 : Zt4) (t_1 : Zt4) (K : List SV → Option Box → Option R) : evFn fields_Set_Either_E (Tb36 R) kk Tryz.f45 fields_Set_Either_c [.dat (.pair (.int .u64) (.pair (.int .u64) .unit)) s_0 [], .dat (.pair (.int .u64) (.pair (.int .u64) .unit)) t_1 []] none K =
  fields_Set_Either_s0 s_0 t_1 (fun a0 => K [.dat (.pair (.int .u64) (.pair (.int .u64) .unit)) a0 []] none) := by kernel_rfl
theorem fields_Set_Either_eq (R : Type) (s_0 : Zt4) (t_1 : Zt4) (K : List SV → Option Box → Option R) : evFn fields_Set_Either_E (Tb36 R) FUEL Tryz.f45 fields_Set_Either_c [.dat (.pair (.int .u64) (.pair (.int .u64) .unit)) s_0 [], .dat (.pair (.int .u64) (.pair (.int .u64) .unit)) t_1 []] none K = (fields_Set_Either s_0 t_1).bind fun r => K [.dat (.pair (.int .u64) (.pair (.int .u64) .unit)) r []] none := by
  rw [fields_Set_Either_t]
  simp only [fields_Set_Either, fields_Set_Either_s0_bind, cond_bind, within_bind, none_bind, some_bind, sum_bind, bind_bind, Sum.elim_inl, Sum.elim_inr]
def fields_Set_Either_g : Pure := fun R l b K => noBox b (args2 (.pair (.int .u64) (.pair (.int .u64) .unit)) (.pair (.int .u64) (.pair (.int .u64) .unit)) l (fun x0 x1 => (fields_Set_Either x0 x1).bind fun r => K [.dat (.pair (.int .u64) (.pair (.int .u64) .unit)) r []] none))
theorem fields_Set_Either_n : fields_Set_Either_g.Nat := fun R S l b F G K h => noBox_nat (args2_nat fun _ _ => bindr_nat fun _ => h _ _)
def Tb37 : Funs := Tb36.add 45 [(.pair (.int .u64) (.pair (.int .u64) .unit)), (.pair (.int .u64) (.pair (.int .u64) .unit))] fields_Set_Either_g
theorem Tb37_nat : Tb37.Nat := add_nat Tb36_nat fields_Set_Either_n
theorem Tb37_owes : ∀ f, Owes Tryz.prog Tb37 f := add_owes (E := fields_Set_Either_E) (Tab.env_ok tab_ok _ _ _ _) mixed Tb36_nat Tb36_owes (fn := Tryz.f45) (code := fields_Set_Either_c) Tryz.func45 (by kernel_rfl) (by kernel_rfl) fun l b r b' h => by
  obtain ⟨rfl, h⟩ := noBox_some h
  obtain ⟨x0, x1, h1, h2⟩ := own2 (E := fields_Set_Either_E) rfl h
  exact ⟨FUEL, (h2 _ _ _ _ _ _).trans ((fields_Set_Either_eq _ x0 x1 _).trans h1)⟩
noncomputable abbrev fields_Set_With_c : Code := Tryz.f37.body.getD .skip
def fields_Set_With_E : Env := tab.env (fun _ => []) (fun _ => []) [4] [(.pair (.int .u64) (.pair (.int .u64) .unit)), (.int .i64)]
theorem fields_Set_With_t (R : Type) (kk : Nat) (s_0 : Zt4) (n_1 : Int) (K : List SV → Option Box → Option R) : evFn fields_Set_With_E (Tb37 R) kk Tryz.f37 fields_Set_With_c [.dat (.pair (.int .u64) (.pair (.int .u64) .unit)) s_0 [], .dat (.int .i64) n_1 []] none K =
  fields_Set_With_s0 s_0 n_1 (fun a0 => K [.dat (.pair (.int .u64) (.pair (.int .u64) .unit)) a0 []] none) := by kernel_rfl
theorem fields_Set_With_eq (R : Type) (s_0 : Zt4) (n_1 : Int) (K : List SV → Option Box → Option R) : evFn fields_Set_With_E (Tb37 R) FUEL Tryz.f37 fields_Set_With_c [.dat (.pair (.int .u64) (.pair (.int .u64) .unit)) s_0 [], .dat (.int .i64) n_1 []] none K = (fields_Set_With s_0 n_1).bind fun r => K [.dat (.pair (.int .u64) (.pair (.int .u64) .unit)) r []] none := by
  rw [fields_Set_With_t]
  simp only [fields_Set_With, fields_Set_With_s0_bind, cond_bind, within_bind, none_bind, some_bind, sum_bind, bind_bind, Sum.elim_inl, Sum.elim_inr]
def fields_Set_With_g : Pure := fun R l b K => noBox b (args2 (.pair (.int .u64) (.pair (.int .u64) .unit)) (.int .i64) l (fun x0 x1 => (fields_Set_With x0 x1).bind fun r => K [.dat (.pair (.int .u64) (.pair (.int .u64) .unit)) r []] none))
theorem fields_Set_With_n : fields_Set_With_g.Nat := fun R S l b F G K h => noBox_nat (args2_nat fun _ _ => bindr_nat fun _ => h _ _)
def Tb38 : Funs := Tb37.add 37 [(.pair (.int .u64) (.pair (.int .u64) .unit)), (.int .i64)] fields_Set_With_g
theorem Tb38_nat : Tb38.Nat := add_nat Tb37_nat fields_Set_With_n
theorem Tb38_owes : ∀ f, Owes Tryz.prog Tb38 f := add_owes (E := fields_Set_With_E) (Tab.env_ok tab_ok _ _ _ _) mixed Tb37_nat Tb37_owes (fn := Tryz.f37) (code := fields_Set_With_c) Tryz.func37 (by kernel_rfl) (by kernel_rfl) fun l b r b' h => by
  obtain ⟨rfl, h⟩ := noBox_some h
  obtain ⟨x0, x1, h1, h2⟩ := own2 (E := fields_Set_With_E) rfl h
  exact ⟨FUEL, (h2 _ _ _ _ _ _).trans ((fields_Set_With_eq _ x0 x1 _).trans h1)⟩
noncomputable abbrev fields_Of_c : Code := Tryz.f43.body.getD .skip
def fields_Of_E : Env := tab.env (fun i => bif Nat.beq i 3 then [2, 3, 6, 7, 8] else []) (fun i => bif Nat.beq i 3 then [2, 3] else []) [2] [(.sl 3 (.int .i64))]
def fields_Of_h0 (t6 : (List Int)) (t7 : Int) (t8 : Int) (bt2 : Zt4) (bt3 : Zt4) : State := ⟨uS 2 ([.ptr 3 (.pair (.int .u64) (.pair (.int .u64) .unit)) []]::[.ptr 4 (.pair (.int .u64) (.pair (.int .u64) .unit)) []]::(uS 2 ([.dat (.sl 3 (.int .i64)) t6 []]::[.dat (.int .i64) t7 []]::[.dat (.int .i64) t8 []]::(uS 8 ([]))))), nS 3 ((some ⟨(.pair (.int .u64) (.pair (.int .u64) .unit)), bt2, []⟩)::(some ⟨(.pair (.int .u64) (.pair (.int .u64) .unit)), bt3, []⟩)::(nS 13 ([])))⟩
def fields_Of_x0_0 (bt2 : Zt4) (bt3 : Zt4) : State := ⟨uS 2 ([.ptr 3 (.pair (.int .u64) (.pair (.int .u64) .unit)) []]::[.ptr 4 (.pair (.int .u64) (.pair (.int .u64) .unit)) []]::(uS 13 ([]))), nS 3 ((some ⟨(.pair (.int .u64) (.pair (.int .u64) .unit)), bt2, []⟩)::(some ⟨(.pair (.int .u64) (.pair (.int .u64) .unit)), bt3, []⟩)::(nS 13 ([])))⟩
theorem fields_Of_t (R : Type) (kk : Nat) (n_0 : (List Int)) (K : List SV → Option Box → Option R) : evFn fields_Of_E (Tb38 R) kk Tryz.f43 fields_Of_c [.dat (.sl 3 (.int .i64)) n_0 []] none K =
  fields_Of_s0 n_0 (fun a0 a1 a2 a3 a4 => loopR (ev fields_Of_E (Tb38 R) kk (sub [1, 1, 0, 1, 0, 0] fields_Of_c)) [2, 3, 6, 7, 8] [2, 3] kk (fields_Of_h0 a0 a1 a2 a3 a4) (kBlock 0 (kSeq fields_Of_E (Tb38 R) kk (sub [1, 1, 1] fields_Of_c) (kFin fields_Of_E Tryz.f43.results.toList none K)))) := by kernel_rfl
theorem fields_Of_d0 (R : Type) (kk k : Nat) (t6 : (List Int)) (t7 : Int) (t8 : Int) (bt2 : Zt4) (bt3 : Zt4) (K : Ex → State → Option R) : loopR (ev fields_Of_E (Tb38 R) kk (sub [1, 1, 0, 1, 0, 0] fields_Of_c)) [2, 3, 6, 7, 8] [2, 3] (k + 1) (fields_Of_h0 t6 t7 t8 bt2 bt3) K =
  fields_Of_s1 t6 t7 t8 bt2 bt3 (fun a0 a1 a2 a3 a4 => loopR (ev fields_Of_E (Tb38 R) kk (sub [1, 1, 0, 1, 0, 0] fields_Of_c)) [2, 3, 6, 7, 8] [2, 3] k (fields_Of_h0 a0 a1 a2 a3 a4) K) (fun a0 a1 => K (.exit 0) (fields_Of_x0_0 a0 a1)) := by kernel_rfl
theorem fields_Of_y0_0 (R : Type) (kk : Nat) (bt2 : Zt4) (bt3 : Zt4) (K : List SV → Option Box → Option R) : (kBlock 0 (kSeq fields_Of_E (Tb38 R) kk (sub [1, 1, 1] fields_Of_c) (kFin fields_Of_E Tryz.f43.results.toList none K))) (.exit 0) (fields_Of_x0_0 bt2 bt3) =
  fields_Of_s2 bt2 bt3 (fun a0 => K [.dat (.pair (.int .u64) (.pair (.int .u64) .unit)) a0 []] none) := by kernel_rfl
theorem fields_Of_lp0 (R : Type) (k : Nat) (t6 : (List Int)) (t7 : Int) (t8 : Int) (bt2 : Zt4) (bt3 : Zt4) (K : Ex → State → Option R) : loopR (ev fields_Of_E (Tb38 R) FUEL (sub [1, 1, 0, 1, 0, 0] fields_Of_c)) [2, 3, 6, 7, 8] [2, 3] k (fields_Of_h0 t6 t7 t8 bt2 bt3) K = (fields_Of_l0 k t6 t7 t8 bt2 bt3).bind fun e => K (.exit 0) (fields_Of_x0_0 e.1 e.2) := by
  induction k generalizing t6 t7 t8 bt2 bt3 with
  | zero => rfl
  | succ k ih =>
    rw [fields_Of_d0]
    simp only [fields_Of_l0, fields_Of_s0_bind, fields_Of_s1_bind, fields_Of_s2_bind, ih, cond_bind, within_bind, none_bind, some_bind, sum_bind, bind_bind, Sum.elim_inl, Sum.elim_inr]
theorem fields_Of_eq (R : Type) (n_0 : (List Int)) (K : List SV → Option Box → Option R) : evFn fields_Of_E (Tb38 R) FUEL Tryz.f43 fields_Of_c [.dat (.sl 3 (.int .i64)) n_0 []] none K = (fields_Of n_0).bind fun r => K [.dat (.pair (.int .u64) (.pair (.int .u64) .unit)) r []] none := by
  rw [fields_Of_t]
  simp only [fields_Of, fields_Of_s0_bind, fields_Of_s1_bind, fields_Of_s2_bind, fields_Of_lp0, fields_Of_y0_0, cond_bind, within_bind, none_bind, some_bind, sum_bind, bind_bind, Sum.elim_inl, Sum.elim_inr]
def fields_Of_g : Pure := fun R l b K => noBox b (args1 (.sl 3 (.int .i64)) l (fun x0 => (fields_Of x0).bind fun r => K [.dat (.pair (.int .u64) (.pair (.int .u64) .unit)) r []] none))
theorem fields_Of_n : fields_Of_g.Nat := fun R S l b F G K h => noBox_nat (args1_nat fun _ => bindr_nat fun _ => h _ _)
def Tb39 : Funs := Tb38.add 43 [(.sl 3 (.int .i64))] fields_Of_g
theorem Tb39_nat : Tb39.Nat := add_nat Tb38_nat fields_Of_n
theorem Tb39_owes : ∀ f, Owes Tryz.prog Tb39 f := add_owes (E := fields_Of_E) (Tab.env_ok tab_ok _ _ _ _) mixed Tb38_nat Tb38_owes (fn := Tryz.f43) (code := fields_Of_c) Tryz.func43 (by kernel_rfl) (by kernel_rfl) fun l b r b' h => by
  obtain ⟨rfl, h⟩ := noBox_some h
  obtain ⟨x0, h1, h2⟩ := own1 (E := fields_Of_E) rfl h
  exact ⟨FUEL, (h2 _ _ _ _ _ _).trans ((fields_Of_eq _ x0 _).trans h1)⟩
noncomputable abbrev fields_Set_Both_c : Code := Tryz.f44.body.getD .skip
def fields_Set_Both_E : Env := tab.env (fun _ => []) (fun _ => []) [4] [(.pair (.int .u64) (.pair (.int .u64) .unit)), (.pair (.int .u64) (.pair (.int .u64) .unit))]
theorem fields_Set_Both_t (R : Type) (kk : Nat) (s_0 : Zt4) (t_1 : Zt4) (K : List SV → Option Box → Option R) : evFn fields_Set_Both_E (Tb39 R) kk Tryz.f44 fields_Set_Both_c [.dat (.pair (.int .u64) (.pair (.int .u64) .unit)) s_0 [], .dat (.pair (.int .u64) (.pair (.int .u64) .unit)) t_1 []] none K =
  fields_Set_Both_s0 s_0 t_1 (fun a0 => K [.dat (.pair (.int .u64) (.pair (.int .u64) .unit)) a0 []] none) := by kernel_rfl
theorem fields_Set_Both_eq (R : Type) (s_0 : Zt4) (t_1 : Zt4) (K : List SV → Option Box → Option R) : evFn fields_Set_Both_E (Tb39 R) FUEL Tryz.f44 fields_Set_Both_c [.dat (.pair (.int .u64) (.pair (.int .u64) .unit)) s_0 [], .dat (.pair (.int .u64) (.pair (.int .u64) .unit)) t_1 []] none K = (fields_Set_Both s_0 t_1).bind fun r => K [.dat (.pair (.int .u64) (.pair (.int .u64) .unit)) r []] none := by
  rw [fields_Set_Both_t]
  simp only [fields_Set_Both, fields_Set_Both_s0_bind, cond_bind, within_bind, none_bind, some_bind, sum_bind, bind_bind, Sum.elim_inl, Sum.elim_inr]
def fields_Set_Both_g : Pure := fun R l b K => noBox b (args2 (.pair (.int .u64) (.pair (.int .u64) .unit)) (.pair (.int .u64) (.pair (.int .u64) .unit)) l (fun x0 x1 => (fields_Set_Both x0 x1).bind fun r => K [.dat (.pair (.int .u64) (.pair (.int .u64) .unit)) r []] none))
theorem fields_Set_Both_n : fields_Set_Both_g.Nat := fun R S l b F G K h => noBox_nat (args2_nat fun _ _ => bindr_nat fun _ => h _ _)
def Tb40 : Funs := Tb39.add 44 [(.pair (.int .u64) (.pair (.int .u64) .unit)), (.pair (.int .u64) (.pair (.int .u64) .unit))] fields_Set_Both_g
theorem Tb40_nat : Tb40.Nat := add_nat Tb39_nat fields_Set_Both_n
theorem Tb40_owes : ∀ f, Owes Tryz.prog Tb40 f := add_owes (E := fields_Set_Both_E) (Tab.env_ok tab_ok _ _ _ _) mixed Tb39_nat Tb39_owes (fn := Tryz.f44) (code := fields_Set_Both_c) Tryz.func44 (by kernel_rfl) (by kernel_rfl) fun l b r b' h => by
  obtain ⟨rfl, h⟩ := noBox_some h
  obtain ⟨x0, x1, h1, h2⟩ := own2 (E := fields_Set_Both_E) rfl h
  exact ⟨FUEL, (h2 _ _ _ _ _ _).trans ((fields_Set_Both_eq _ x0 x1 _).trans h1)⟩
noncomputable abbrev xlate_Check_c : Code := Tryz.f21.body.getD .skip
def xlate_Check_E : Env := tab.env (fun i => bif Nat.beq i 2 then [3, 4, 5, 26, 27, 28] else bif Nat.beq i 12 then [3, 4, 5, 13, 46, 48, 49, 50] else bif Nat.beq i 24 then [4, 5, 16, 17, 77, 78, 79] else []) (fun i => bif Nat.beq i 2 then [3, 4, 5, 6, 7, 8] else bif Nat.beq i 12 then [3, 4, 5, 6, 7, 8] else bif Nat.beq i 24 then [6, 7, 8] else []) [] [y14, y13, y13]
def xlate_Check_h0 (t26 : Zt17) (t27 : Int) (t28 : Int) (bt3 : Zt22) (bt4 : Zt16) (bt5 : Zt16) : State := ⟨uS 3 ([.ptr 4 y14 []]::[.ptr 5 y13 []]::[.ptr 6 y13 []]::(uS 20 ([.dat (.sl 28 y13) t26 [[]]]::[.dat (.int .i64) t27 []]::[.dat (.int .i64) t28 []]::(uS 92 ([]))))), nS 4 ((some ⟨y14, bt3, []⟩)::(some ⟨y13, bt4, []⟩)::(some ⟨y13, bt5, []⟩)::(nS 115 ([])))⟩
def xlate_Check_x0_0 (t6 : Int) (t7 : Int) (t8 : Int) (bt3 : Zt22) (bt4 : Zt16) (bt5 : Zt16) : State := ⟨uS 3 ([.ptr 4 y14 []]::[.ptr 5 y13 []]::[.ptr 6 y13 []]::[.dat (.int .i64) t6 []]::[.dat (.int .i64) t7 []]::[.dat (.int .i64) t8 []]::(uS 112 ([]))), nS 4 ((some ⟨y14, bt3, []⟩)::(some ⟨y13, bt4, []⟩)::(some ⟨y13, bt5, []⟩)::(nS 115 ([])))⟩
def xlate_Check_x0_1 (bt3 : Zt22) (bt4 : Zt16) (bt5 : Zt16) : State := ⟨uS 3 ([.ptr 4 y14 []]::[.ptr 5 y13 []]::[.ptr 6 y13 []]::(uS 115 ([]))), nS 4 ((some ⟨y14, bt3, []⟩)::(some ⟨y13, bt4, []⟩)::(some ⟨y13, bt5, []⟩)::(nS 115 ([])))⟩
def xlate_Check_h1 (t48 : Zt12) (t49 : Int) (t50 : Int) (bt3 : Zt22) (bt4 : Zt16) (bt5 : Zt16) (bt13 : Zt7) : State := ⟨uS 3 ([.ptr 4 y14 []]::[.ptr 5 y13 []]::[.ptr 6 y13 []]::(uS 7 ([.ptr 47 (.spc .mp .str .bool) []]::(uS 32 ([.ptr 47 (.spc .mp .str .bool) []]::(uS 1 ([.dat (.sl 42 (.pair .str (.pair .str .unit))) t48 []]::[.dat (.int .i64) t49 []]::[.dat (.int .i64) t50 []]::(uS 70 ([]))))))))), nS 4 ((some ⟨y14, bt3, []⟩)::(some ⟨y13, bt4, []⟩)::(some ⟨y13, bt5, []⟩)::(nS 40 ((some ⟨(.spc .mp .str .bool), bt13, []⟩)::(nS 74 ([])))))⟩
def xlate_Check_x1_0 (t6 : Int) (t7 : Int) (t8 : Int) (bt3 : Zt22) (bt4 : Zt16) (bt5 : Zt16) : State := ⟨uS 3 ([.ptr 4 y14 []]::[.ptr 5 y13 []]::[.ptr 6 y13 []]::[.dat (.int .i64) t6 []]::[.dat (.int .i64) t7 []]::[.dat (.int .i64) t8 []]::(uS 112 ([]))), nS 4 ((some ⟨y14, bt3, []⟩)::(some ⟨y13, bt4, []⟩)::(some ⟨y13, bt5, []⟩)::(nS 115 ([])))⟩
def xlate_Check_x1_1 (bt3 : Zt22) (bt4 : Zt16) (bt5 : Zt16) : State := ⟨uS 3 ([.ptr 4 y14 []]::[.ptr 5 y13 []]::[.ptr 6 y13 []]::(uS 115 ([]))), nS 4 ((some ⟨y14, bt3, []⟩)::(some ⟨y13, bt4, []⟩)::(some ⟨y13, bt5, []⟩)::(nS 115 ([])))⟩
def xlate_Check_h2 (t77 : Zt20) (t78 : Int) (t79 : Int) (bt4 : Zt16) (bt5 : Zt16) (bt16 : Zt4) (bt17 : Zt4) : State := ⟨uS 4 ([.ptr 5 y13 []]::[.ptr 6 y13 []]::(uS 10 ([.ptr 17 (.pair (.int .u64) (.pair (.int .u64) .unit)) []]::[.ptr 18 (.pair (.int .u64) (.pair (.int .u64) .unit)) []]::(uS 59 ([.dat (.sl 46 y9) t77 []]::[.dat (.int .i64) t78 []]::[.dat (.int .i64) t79 []]::(uS 41 ([]))))))), nS 5 ((some ⟨y13, bt4, []⟩)::(some ⟨y13, bt5, []⟩)::(nS 10 ((some ⟨(.pair (.int .u64) (.pair (.int .u64) .unit)), bt16, []⟩)::(some ⟨(.pair (.int .u64) (.pair (.int .u64) .unit)), bt17, []⟩)::(nS 103 ([])))))⟩
def xlate_Check_x2_0 (t6 : Int) (t7 : Int) (t8 : Int) : State := ⟨uS 6 ([.dat (.int .i64) t6 []]::[.dat (.int .i64) t7 []]::[.dat (.int .i64) t8 []]::(uS 112 ([]))), nS 122 []⟩
def xlate_Check_x2_1  : State := ⟨uS 121 [], nS 122 []⟩
theorem xlate_Check_t (R : Type) (kk : Nat) (m_0 : Zt22) (a_1 : Zt16) (b_2 : Zt16) (K : List SV → Option Box → Option R) : evFn xlate_Check_E (Tb40 R) kk Tryz.f21 xlate_Check_c [.dat y14 m_0 [], .dat y13 a_1 [], .dat y13 b_2 []] none K =
  xlate_Check_s0 m_0 a_1 b_2 (fun a0 a1 a2 a3 a4 a5 => loopR (ev xlate_Check_E (Tb40 R) kk (sub [1, 0, 1, 0, 0] xlate_Check_c)) [3, 4, 5, 26, 27, 28] [3, 4, 5, 6, 7, 8] kk (xlate_Check_h0 a0 a1 a2 a3 a4 a5) (kBlock 0 (kSeq xlate_Check_E (Tb40 R) kk (sub [1, 1] xlate_Check_c) (kFin xlate_Check_E Tryz.f21.results.toList none K)))) := by kernel_rfl
theorem xlate_Check_d0 (R : Type) (kk k : Nat) (t26 : Zt17) (t27 : Int) (t28 : Int) (bt3 : Zt22) (bt4 : Zt16) (bt5 : Zt16) (K : Ex → State → Option R) : loopR (ev xlate_Check_E (Tb40 R) kk (sub [1, 0, 1, 0, 0] xlate_Check_c)) [3, 4, 5, 26, 27, 28] [3, 4, 5, 6, 7, 8] (k + 1) (xlate_Check_h0 t26 t27 t28 bt3 bt4 bt5) K =
  xlate_Check_s1 t26 t27 t28 bt3 bt4 bt5 (fun a0 a1 a2 a3 a4 a5 => K .ret (xlate_Check_x0_0 a0 a1 a2 a3 a4 a5)) (fun a0 a1 a2 a3 a4 a5 => loopR (ev xlate_Check_E (Tb40 R) kk (sub [1, 0, 1, 0, 0] xlate_Check_c)) [3, 4, 5, 26, 27, 28] [3, 4, 5, 6, 7, 8] k (xlate_Check_h0 a0 a1 a2 a3 a4 a5) K) (fun a0 a1 a2 => K (.exit 0) (xlate_Check_x0_1 a0 a1 a2)) := by kernel_rfl
theorem xlate_Check_y0_0 (R : Type) (kk : Nat) (t6 : Int) (t7 : Int) (t8 : Int) (bt3 : Zt22) (bt4 : Zt16) (bt5 : Zt16) (K : List SV → Option Box → Option R) : (kBlock 0 (kSeq xlate_Check_E (Tb40 R) kk (sub [1, 1] xlate_Check_c) (kFin xlate_Check_E Tryz.f21.results.toList none K))) .ret (xlate_Check_x0_0 t6 t7 t8 bt3 bt4 bt5) =
  xlate_Check_s2 t6 t7 t8 bt3 bt4 bt5 (fun a0 a1 a2 => K [.dat (.int .i64) a0 [], .dat (.int .i64) a1 [], .dat (.int .i64) a2 []] none) := by kernel_rfl
theorem xlate_Check_y0_1 (R : Type) (kk : Nat) (bt3 : Zt22) (bt4 : Zt16) (bt5 : Zt16) (K : List SV → Option Box → Option R) : (kBlock 0 (kSeq xlate_Check_E (Tb40 R) kk (sub [1, 1] xlate_Check_c) (kFin xlate_Check_E Tryz.f21.results.toList none K))) (.exit 0) (xlate_Check_x0_1 bt3 bt4 bt5) =
  xlate_Check_s3 bt3 bt4 bt5 (fun a0 a1 a2 => K [.dat (.int .i64) a0 [], .dat (.int .i64) a1 [], .dat (.int .i64) a2 []] none) (fun a0 a1 a2 a3 a4 a5 a6 => loopR (ev xlate_Check_E (Tb40 R) kk (sub [1, 1, 1, 1, 0, 1, 0, 0] xlate_Check_c)) [3, 4, 5, 13, 46, 48, 49, 50] [3, 4, 5, 6, 7, 8] kk (xlate_Check_h1 a0 a1 a2 a3 a4 a5 a6) (kBlock 2 (kSeq xlate_Check_E (Tb40 R) kk (sub [1, 1, 1, 1, 1] xlate_Check_c) (kFin xlate_Check_E Tryz.f21.results.toList none K)))) := by kernel_rfl
theorem xlate_Check_d1 (R : Type) (kk k : Nat) (t48 : Zt12) (t49 : Int) (t50 : Int) (bt3 : Zt22) (bt4 : Zt16) (bt5 : Zt16) (bt13 : Zt7) (K : Ex → State → Option R) : loopR (ev xlate_Check_E (Tb40 R) kk (sub [1, 1, 1, 1, 0, 1, 0, 0] xlate_Check_c)) [3, 4, 5, 13, 46, 48, 49, 50] [3, 4, 5, 6, 7, 8] (k + 1) (xlate_Check_h1 t48 t49 t50 bt3 bt4 bt5 bt13) K =
  xlate_Check_s4 t48 t49 t50 bt3 bt4 bt5 bt13 (fun a0 a1 a2 a3 a4 a5 => K .ret (xlate_Check_x1_0 a0 a1 a2 a3 a4 a5)) (fun a0 a1 a2 a3 a4 a5 a6 => loopR (ev xlate_Check_E (Tb40 R) kk (sub [1, 1, 1, 1, 0, 1, 0, 0] xlate_Check_c)) [3, 4, 5, 13, 46, 48, 49, 50] [3, 4, 5, 6, 7, 8] k (xlate_Check_h1 a0 a1 a2 a3 a4 a5 a6) K) (fun a0 a1 a2 => K (.exit 2) (xlate_Check_x1_1 a0 a1 a2)) := by kernel_rfl
theorem xlate_Check_y1_0 (R : Type) (kk : Nat) (t6 : Int) (t7 : Int) (t8 : Int) (bt3 : Zt22) (bt4 : Zt16) (bt5 : Zt16) (K : List SV → Option Box → Option R) : (kBlock 2 (kSeq xlate_Check_E (Tb40 R) kk (sub [1, 1, 1, 1, 1] xlate_Check_c) (kFin xlate_Check_E Tryz.f21.results.toList none K))) .ret (xlate_Check_x1_0 t6 t7 t8 bt3 bt4 bt5) =
  xlate_Check_s5 t6 t7 t8 bt3 bt4 bt5 (fun a0 a1 a2 => K [.dat (.int .i64) a0 [], .dat (.int .i64) a1 [], .dat (.int .i64) a2 []] none) := by kernel_rfl
theorem xlate_Check_y1_1 (R : Type) (kk : Nat) (bt3 : Zt22) (bt4 : Zt16) (bt5 : Zt16) (K : List SV → Option Box → Option R) : (kBlock 2 (kSeq xlate_Check_E (Tb40 R) kk (sub [1, 1, 1, 1, 1] xlate_Check_c) (kFin xlate_Check_E Tryz.f21.results.toList none K))) (.exit 2) (xlate_Check_x1_1 bt3 bt4 bt5) =
  xlate_Check_s6 bt3 bt4 bt5 (fun a0 a1 a2 => K [.dat (.int .i64) a0 [], .dat (.int .i64) a1 [], .dat (.int .i64) a2 []] none) (fun a0 a1 a2 a3 a4 a5 a6 => loopR (ev xlate_Check_E (Tb40 R) kk (sub [1, 1, 1, 1, 1, 1, 1, 0, 1, 0, 0] xlate_Check_c)) [4, 5, 16, 17, 77, 78, 79] [6, 7, 8] kk (xlate_Check_h2 a0 a1 a2 a3 a4 a5 a6) (kBlock 5 (kSeq xlate_Check_E (Tb40 R) kk (sub [1, 1, 1, 1, 1, 1, 1, 1] xlate_Check_c) (kFin xlate_Check_E Tryz.f21.results.toList none K)))) := by kernel_rfl
theorem xlate_Check_d2 (R : Type) (kk k : Nat) (t77 : Zt20) (t78 : Int) (t79 : Int) (bt4 : Zt16) (bt5 : Zt16) (bt16 : Zt4) (bt17 : Zt4) (K : Ex → State → Option R) : loopR (ev xlate_Check_E (Tb40 R) kk (sub [1, 1, 1, 1, 1, 1, 1, 0, 1, 0, 0] xlate_Check_c)) [4, 5, 16, 17, 77, 78, 79] [6, 7, 8] (k + 1) (xlate_Check_h2 t77 t78 t79 bt4 bt5 bt16 bt17) K =
  xlate_Check_s7 t77 t78 t79 bt4 bt5 bt16 bt17 (fun a0 a1 a2 => K .ret (xlate_Check_x2_0 a0 a1 a2)) (fun a0 a1 a2 a3 a4 a5 a6 => loopR (ev xlate_Check_E (Tb40 R) kk (sub [1, 1, 1, 1, 1, 1, 1, 0, 1, 0, 0] xlate_Check_c)) [4, 5, 16, 17, 77, 78, 79] [6, 7, 8] k (xlate_Check_h2 a0 a1 a2 a3 a4 a5 a6) K) (K (.exit 5) (xlate_Check_x2_1)) := by kernel_rfl
theorem xlate_Check_y2_0 (R : Type) (kk : Nat) (t6 : Int) (t7 : Int) (t8 : Int) (K : List SV → Option Box → Option R) : (kBlock 5 (kSeq xlate_Check_E (Tb40 R) kk (sub [1, 1, 1, 1, 1, 1, 1, 1] xlate_Check_c) (kFin xlate_Check_E Tryz.f21.results.toList none K))) .ret (xlate_Check_x2_0 t6 t7 t8) =
  xlate_Check_s8 t6 t7 t8 (fun a0 a1 a2 => K [.dat (.int .i64) a0 [], .dat (.int .i64) a1 [], .dat (.int .i64) a2 []] none) := by kernel_rfl
theorem xlate_Check_y2_1 (R : Type) (kk : Nat)  (K : List SV → Option Box → Option R) : (kBlock 5 (kSeq xlate_Check_E (Tb40 R) kk (sub [1, 1, 1, 1, 1, 1, 1, 1] xlate_Check_c) (kFin xlate_Check_E Tryz.f21.results.toList none K))) (.exit 5) (xlate_Check_x2_1) =
  xlate_Check_s9 (fun a0 a1 a2 => K [.dat (.int .i64) a0 [], .dat (.int .i64) a1 [], .dat (.int .i64) a2 []] none) := by kernel_rfl
theorem xlate_Check_lp0 (R : Type) (k : Nat) (t26 : Zt17) (t27 : Int) (t28 : Int) (bt3 : Zt22) (bt4 : Zt16) (bt5 : Zt16) (K : Ex → State → Option R) : loopR (ev xlate_Check_E (Tb40 R) FUEL (sub [1, 0, 1, 0, 0] xlate_Check_c)) [3, 4, 5, 26, 27, 28] [3, 4, 5, 6, 7, 8] k (xlate_Check_h0 t26 t27 t28 bt3 bt4 bt5) K = (xlate_Check_l0 k t26 t27 t28 bt3 bt4 bt5).bind fun e => (Sum.elim (fun (we : Zt24) => K .ret (xlate_Check_x0_0 we.1 we.2.1 we.2.2.1 we.2.2.2.1 we.2.2.2.2.1 we.2.2.2.2.2)) (fun (we : Zt23) => K (.exit 0) (xlate_Check_x0_1 we.1 we.2.1 we.2.2)) e) := by
  induction k generalizing t26 t27 t28 bt3 bt4 bt5 with
  | zero => rfl
  | succ k ih =>
    rw [xlate_Check_d0]
    simp only [xlate_Check_l0, xlate_Check_s0_bind, xlate_Check_s1_bind, xlate_Check_s2_bind, xlate_Check_s3_bind, xlate_Check_s4_bind, xlate_Check_s5_bind, xlate_Check_s6_bind, xlate_Check_s7_bind, xlate_Check_s8_bind, xlate_Check_s9_bind, ih, cond_bind, within_bind, none_bind, some_bind, sum_bind, bind_bind, Sum.elim_inl, Sum.elim_inr]
theorem xlate_Check_lp1 (R : Type) (k : Nat) (t48 : Zt12) (t49 : Int) (t50 : Int) (bt3 : Zt22) (bt4 : Zt16) (bt5 : Zt16) (bt13 : Zt7) (K : Ex → State → Option R) : loopR (ev xlate_Check_E (Tb40 R) FUEL (sub [1, 1, 1, 1, 0, 1, 0, 0] xlate_Check_c)) [3, 4, 5, 13, 46, 48, 49, 50] [3, 4, 5, 6, 7, 8] k (xlate_Check_h1 t48 t49 t50 bt3 bt4 bt5 bt13) K = (xlate_Check_l1 k t48 t49 t50 bt3 bt4 bt5 bt13).bind fun e => (Sum.elim (fun (we : Zt24) => K .ret (xlate_Check_x1_0 we.1 we.2.1 we.2.2.1 we.2.2.2.1 we.2.2.2.2.1 we.2.2.2.2.2)) (fun (we : Zt23) => K (.exit 2) (xlate_Check_x1_1 we.1 we.2.1 we.2.2)) e) := by
  induction k generalizing t48 t49 t50 bt3 bt4 bt5 bt13 with
  | zero => rfl
  | succ k ih =>
    rw [xlate_Check_d1]
    simp only [xlate_Check_l1, xlate_Check_s0_bind, xlate_Check_s1_bind, xlate_Check_s2_bind, xlate_Check_s3_bind, xlate_Check_s4_bind, xlate_Check_s5_bind, xlate_Check_s6_bind, xlate_Check_s7_bind, xlate_Check_s8_bind, xlate_Check_s9_bind, ih, cond_bind, within_bind, none_bind, some_bind, sum_bind, bind_bind, Sum.elim_inl, Sum.elim_inr]
theorem xlate_Check_lp2 (R : Type) (k : Nat) (t77 : Zt20) (t78 : Int) (t79 : Int) (bt4 : Zt16) (bt5 : Zt16) (bt16 : Zt4) (bt17 : Zt4) (K : Ex → State → Option R) : loopR (ev xlate_Check_E (Tb40 R) FUEL (sub [1, 1, 1, 1, 1, 1, 1, 0, 1, 0, 0] xlate_Check_c)) [4, 5, 16, 17, 77, 78, 79] [6, 7, 8] k (xlate_Check_h2 t77 t78 t79 bt4 bt5 bt16 bt17) K = (xlate_Check_l2 k t77 t78 t79 bt4 bt5 bt16 bt17).bind fun e => (Sum.elim (fun (we : Zt0) => K .ret (xlate_Check_x2_0 we.1 we.2.1 we.2.2)) (fun (we : Unit) => K (.exit 5) (xlate_Check_x2_1)) e) := by
  induction k generalizing t77 t78 t79 bt4 bt5 bt16 bt17 with
  | zero => rfl
  | succ k ih =>
    rw [xlate_Check_d2]
    simp only [xlate_Check_l2, xlate_Check_s0_bind, xlate_Check_s1_bind, xlate_Check_s2_bind, xlate_Check_s3_bind, xlate_Check_s4_bind, xlate_Check_s5_bind, xlate_Check_s6_bind, xlate_Check_s7_bind, xlate_Check_s8_bind, xlate_Check_s9_bind, ih, cond_bind, within_bind, none_bind, some_bind, sum_bind, bind_bind, Sum.elim_inl, Sum.elim_inr]
theorem xlate_Check_eq (R : Type) (m_0 : Zt22) (a_1 : Zt16) (b_2 : Zt16) (K : List SV → Option Box → Option R) : evFn xlate_Check_E (Tb40 R) FUEL Tryz.f21 xlate_Check_c [.dat y14 m_0 [], .dat y13 a_1 [], .dat y13 b_2 []] none K = (xlate_Check m_0 a_1 b_2).bind fun r => K [.dat (.int .i64) r.1 [], .dat (.int .i64) r.2.1 [], .dat (.int .i64) r.2.2 []] none := by
  rw [xlate_Check_t]
  simp only [xlate_Check, xlate_Check_s0_bind, xlate_Check_s1_bind, xlate_Check_s2_bind, xlate_Check_s3_bind, xlate_Check_s4_bind, xlate_Check_s5_bind, xlate_Check_s6_bind, xlate_Check_s7_bind, xlate_Check_s8_bind, xlate_Check_s9_bind, xlate_Check_lp0, xlate_Check_lp1, xlate_Check_lp2, xlate_Check_y0_0, xlate_Check_y0_1, xlate_Check_y1_0, xlate_Check_y1_1, xlate_Check_y2_0, xlate_Check_y2_1, cond_bind, within_bind, none_bind, some_bind, sum_bind, bind_bind, Sum.elim_inl, Sum.elim_inr]
def xlate_Check_g : Pure := fun R l b K => noBox b (args3 y14 y13 y13 l (fun x0 x1 x2 => (xlate_Check x0 x1 x2).bind fun r => K [.dat (.int .i64) r.1 [], .dat (.int .i64) r.2.1 [], .dat (.int .i64) r.2.2 []] none))
theorem xlate_Check_n : xlate_Check_g.Nat := fun R S l b F G K h => noBox_nat (args3_nat fun _ _ _ => bindr_nat fun _ => h _ _)
def Tb41 : Funs := Tb40.add 21 [y14, y13, y13] xlate_Check_g
theorem Tb41_nat : Tb41.Nat := add_nat Tb40_nat xlate_Check_n
theorem Tb41_owes : ∀ f, Owes Tryz.prog Tb41 f := add_owes (E := xlate_Check_E) (Tab.env_ok tab_ok _ _ _ _) mixed Tb40_nat Tb40_owes (fn := Tryz.f21) (code := xlate_Check_c) Tryz.func21 (by kernel_rfl) (by kernel_rfl) fun l b r b' h => by
  obtain ⟨rfl, h⟩ := noBox_some h
  obtain ⟨x0, x1, x2, h1, h2⟩ := own3 (E := xlate_Check_E) rfl h
  exact ⟨FUEL, (h2 _ _ _ _ _ _).trans ((xlate_Check_eq _ x0 x1 x2 _).trans h1)⟩
noncomputable abbrev codes_Bijective_c : Code := Tryz.f22.body.getD .skip
def codes_Bijective_E : Env := tab.env (fun _ => []) (fun _ => []) [] [(.sl 42 (.pair .str (.pair .str .unit)))]
theorem codes_Bijective_t (R : Type) (kk : Nat) (l_0 : Zt12) (K : List SV → Option Box → Option R) : evFn codes_Bijective_E (Tb41 R) kk Tryz.f22 codes_Bijective_c [.dat (.sl 42 (.pair .str (.pair .str .unit))) l_0 []] none K =
  codes_Bijective_s0 l_0 (fun a0 => K [.dat .bool a0 []] none) := by kernel_rfl
theorem codes_Bijective_eq (R : Type) (l_0 : Zt12) (K : List SV → Option Box → Option R) : evFn codes_Bijective_E (Tb41 R) FUEL Tryz.f22 codes_Bijective_c [.dat (.sl 42 (.pair .str (.pair .str .unit))) l_0 []] none K = (codes_Bijective l_0).bind fun r => K [.dat .bool r []] none := by
  rw [codes_Bijective_t]
  simp only [codes_Bijective, codes_Bijective_s0_bind, cond_bind, within_bind, none_bind, some_bind, sum_bind, bind_bind, Sum.elim_inl, Sum.elim_inr]
def codes_Bijective_g : Pure := fun R l b K => noBox b (args1 (.sl 42 (.pair .str (.pair .str .unit))) l (fun x0 => (codes_Bijective x0).bind fun r => K [.dat .bool r []] none))
theorem codes_Bijective_n : codes_Bijective_g.Nat := fun R S l b F G K h => noBox_nat (args1_nat fun _ => bindr_nat fun _ => h _ _)
def Tb42 : Funs := Tb41.add 22 [(.sl 42 (.pair .str (.pair .str .unit)))] codes_Bijective_g
theorem Tb42_nat : Tb42.Nat := add_nat Tb41_nat codes_Bijective_n
theorem Tb42_owes : ∀ f, Owes Tryz.prog Tb42 f := add_owes (E := codes_Bijective_E) (Tab.env_ok tab_ok _ _ _ _) mixed Tb41_nat Tb41_owes (fn := Tryz.f22) (code := codes_Bijective_c) Tryz.func22 (by kernel_rfl) (by kernel_rfl) fun l b r b' h => by
  obtain ⟨rfl, h⟩ := noBox_some h
  obtain ⟨x0, h1, h2⟩ := own1 (E := codes_Bijective_E) rfl h
  exact ⟨FUEL, (h2 _ _ _ _ _ _).trans ((codes_Bijective_eq _ x0 _).trans h1)⟩
noncomputable abbrev invert_undone_c : Code := Tryz.f23.body.getD .skip
def invert_undone_E : Env := tab.env (fun _ => []) (fun _ => []) [] [y9, y13, y13]
theorem invert_undone_t (R : Type) (kk : Nat) (r_0 : Zt18) (a_1 : Zt16) (b_2 : Zt16) (K : List SV → Option Box → Option R) : evFn invert_undone_E (Tb42 R) kk Tryz.f23 invert_undone_c [.dat y9 r_0 [], .dat y13 a_1 [], .dat y13 b_2 []] none K =
  invert_undone_s0 r_0 a_1 b_2 (fun a0 => K [.dat .bool a0 []] none) := by kernel_rfl
theorem invert_undone_eq (R : Type) (r_0 : Zt18) (a_1 : Zt16) (b_2 : Zt16) (K : List SV → Option Box → Option R) : evFn invert_undone_E (Tb42 R) FUEL Tryz.f23 invert_undone_c [.dat y9 r_0 [], .dat y13 a_1 [], .dat y13 b_2 []] none K = (invert_undone r_0 a_1 b_2).bind fun r => K [.dat .bool r []] none := by
  rw [invert_undone_t]
  simp only [invert_undone, invert_undone_s0_bind, cond_bind, within_bind, none_bind, some_bind, sum_bind, bind_bind, Sum.elim_inl, Sum.elim_inr]
def invert_undone_g : Pure := fun R l b K => noBox b (args3 y9 y13 y13 l (fun x0 x1 x2 => (invert_undone x0 x1 x2).bind fun r => K [.dat .bool r []] none))
theorem invert_undone_n : invert_undone_g.Nat := fun R S l b F G K h => noBox_nat (args3_nat fun _ _ _ => bindr_nat fun _ => h _ _)
def Tb43 : Funs := Tb42.add 23 [y9, y13, y13] invert_undone_g
theorem Tb43_nat : Tb43.Nat := add_nat Tb42_nat invert_undone_n
theorem Tb43_owes : ∀ f, Owes Tryz.prog Tb43 f := add_owes (E := invert_undone_E) (Tab.env_ok tab_ok _ _ _ _) mixed Tb42_nat Tb42_owes (fn := Tryz.f23) (code := invert_undone_c) Tryz.func23 (by kernel_rfl) (by kernel_rfl) fun l b r b' h => by
  obtain ⟨rfl, h⟩ := noBox_some h
  obtain ⟨x0, x1, x2, h1, h2⟩ := own3 (E := invert_undone_E) rfl h
  exact ⟨FUEL, (h2 _ _ _ _ _ _).trans ((invert_undone_eq _ x0 x1 x2 _).trans h1)⟩
noncomputable abbrev invert_Check_c : Code := Tryz.f8.body.getD .skip
def invert_Check_E : Env := tab.env (fun i => bif Nat.beq i 5 then [4, 5, 29, 30, 31] else []) (fun i => bif Nat.beq i 5 then [6] else []) [] [y14, y13, y13]
def invert_Check_h0 (t29 : Zt20) (t30 : Int) (t31 : Int) (bt4 : Zt16) (bt5 : Zt16) : State := ⟨uS 4 ([.ptr 5 y13 []]::[.ptr 6 y13 []]::(uS 23 ([.dat (.sl 46 y9) t29 []]::[.dat (.int .i64) t30 []]::[.dat (.int .i64) t31 []]::(uS 9 ([]))))), nS 5 ((some ⟨y13, bt4, []⟩)::(some ⟨y13, bt5, []⟩)::(nS 35 ([])))⟩
def invert_Check_x0_0 (t6 : Bool) : State := ⟨uS 6 ([.dat .bool t6 []]::(uS 34 ([]))), nS 42 []⟩
def invert_Check_x0_1  : State := ⟨uS 41 [], nS 42 []⟩
theorem invert_Check_t (R : Type) (kk : Nat) (m_0 : Zt22) (a_1 : Zt16) (b_2 : Zt16) (K : List SV → Option Box → Option R) : evFn invert_Check_E (Tb43 R) kk Tryz.f8 invert_Check_c [.dat y14 m_0 [], .dat y13 a_1 [], .dat y13 b_2 []] none K =
  invert_Check_s0 m_0 a_1 b_2 (fun a0 => K [.dat .bool a0 []] none) (fun a0 a1 a2 a3 a4 => loopR (ev invert_Check_E (Tb43 R) kk (sub [1, 1, 0, 1, 0, 0] invert_Check_c)) [4, 5, 29, 30, 31] [6] kk (invert_Check_h0 a0 a1 a2 a3 a4) (kBlock 0 (kSeq invert_Check_E (Tb43 R) kk (sub [1, 1, 1] invert_Check_c) (kFin invert_Check_E Tryz.f8.results.toList none K)))) := by kernel_rfl
theorem invert_Check_d0 (R : Type) (kk k : Nat) (t29 : Zt20) (t30 : Int) (t31 : Int) (bt4 : Zt16) (bt5 : Zt16) (K : Ex → State → Option R) : loopR (ev invert_Check_E (Tb43 R) kk (sub [1, 1, 0, 1, 0, 0] invert_Check_c)) [4, 5, 29, 30, 31] [6] (k + 1) (invert_Check_h0 t29 t30 t31 bt4 bt5) K =
  invert_Check_s1 t29 t30 t31 bt4 bt5 (fun a0 => K .ret (invert_Check_x0_0 a0)) (fun a0 a1 a2 a3 a4 => loopR (ev invert_Check_E (Tb43 R) kk (sub [1, 1, 0, 1, 0, 0] invert_Check_c)) [4, 5, 29, 30, 31] [6] k (invert_Check_h0 a0 a1 a2 a3 a4) K) (K (.exit 0) (invert_Check_x0_1)) := by kernel_rfl
theorem invert_Check_y0_0 (R : Type) (kk : Nat) (t6 : Bool) (K : List SV → Option Box → Option R) : (kBlock 0 (kSeq invert_Check_E (Tb43 R) kk (sub [1, 1, 1] invert_Check_c) (kFin invert_Check_E Tryz.f8.results.toList none K))) .ret (invert_Check_x0_0 t6) =
  invert_Check_s2 t6 (fun a0 => K [.dat .bool a0 []] none) := by kernel_rfl
theorem invert_Check_y0_1 (R : Type) (kk : Nat)  (K : List SV → Option Box → Option R) : (kBlock 0 (kSeq invert_Check_E (Tb43 R) kk (sub [1, 1, 1] invert_Check_c) (kFin invert_Check_E Tryz.f8.results.toList none K))) (.exit 0) (invert_Check_x0_1) =
  invert_Check_s3 (fun a0 => K [.dat .bool a0 []] none) := by kernel_rfl
theorem invert_Check_lp0 (R : Type) (k : Nat) (t29 : Zt20) (t30 : Int) (t31 : Int) (bt4 : Zt16) (bt5 : Zt16) (K : Ex → State → Option R) : loopR (ev invert_Check_E (Tb43 R) FUEL (sub [1, 1, 0, 1, 0, 0] invert_Check_c)) [4, 5, 29, 30, 31] [6] k (invert_Check_h0 t29 t30 t31 bt4 bt5) K = (invert_Check_l0 k t29 t30 t31 bt4 bt5).bind fun e => (Sum.elim (fun (we : Bool) => K .ret (invert_Check_x0_0 we)) (fun (we : Unit) => K (.exit 0) (invert_Check_x0_1)) e) := by
  induction k generalizing t29 t30 t31 bt4 bt5 with
  | zero => rfl
  | succ k ih =>
    rw [invert_Check_d0]
    simp only [invert_Check_l0, invert_Check_s0_bind, invert_Check_s1_bind, invert_Check_s2_bind, invert_Check_s3_bind, ih, cond_bind, within_bind, none_bind, some_bind, sum_bind, bind_bind, Sum.elim_inl, Sum.elim_inr]
theorem invert_Check_eq (R : Type) (m_0 : Zt22) (a_1 : Zt16) (b_2 : Zt16) (K : List SV → Option Box → Option R) : evFn invert_Check_E (Tb43 R) FUEL Tryz.f8 invert_Check_c [.dat y14 m_0 [], .dat y13 a_1 [], .dat y13 b_2 []] none K = (invert_Check m_0 a_1 b_2).bind fun r => K [.dat .bool r []] none := by
  rw [invert_Check_t]
  simp only [invert_Check, invert_Check_s0_bind, invert_Check_s1_bind, invert_Check_s2_bind, invert_Check_s3_bind, invert_Check_lp0, invert_Check_y0_0, invert_Check_y0_1, cond_bind, within_bind, none_bind, some_bind, sum_bind, bind_bind, Sum.elim_inl, Sum.elim_inr]
def invert_Check_g : Pure := fun R l b K => noBox b (args3 y14 y13 y13 l (fun x0 x1 x2 => (invert_Check x0 x1 x2).bind fun r => K [.dat .bool r []] none))
theorem invert_Check_n : invert_Check_g.Nat := fun R S l b F G K h => noBox_nat (args3_nat fun _ _ _ => bindr_nat fun _ => h _ _)
def Tb44 : Funs := Tb43.add 8 [y14, y13, y13] invert_Check_g
theorem Tb44_nat : Tb44.Nat := add_nat Tb43_nat invert_Check_n
theorem Tb44_owes : ∀ f, Owes Tryz.prog Tb44 f := add_owes (E := invert_Check_E) (Tab.env_ok tab_ok _ _ _ _) mixed Tb43_nat Tb43_owes (fn := Tryz.f8) (code := invert_Check_c) Tryz.func8 (by kernel_rfl) (by kernel_rfl) fun l b r b' h => by
  obtain ⟨rfl, h⟩ := noBox_some h
  obtain ⟨x0, x1, x2, h1, h2⟩ := own3 (E := invert_Check_E) rfl h
  exact ⟨FUEL, (h2 _ _ _ _ _ _).trans ((invert_Check_eq _ x0 x1 x2 _).trans h1)⟩
noncomputable abbrev w22_awake_c : Code := Tryz.f5.body.getD .skip
def w22_awake_E : Env := tab.env (fun _ => []) (fun _ => []) [] []
theorem w22_awake_t (R : Type) (kk : Nat)  (K : List SV → Option Box → Option R) : evFn w22_awake_E (Tb44 R) kk Tryz.f5 w22_awake_c [] none K =
  w22_awake_s0 (fun a0 => K [.dat .bool a0 []] none) := by kernel_rfl
theorem w22_awake_eq (R : Type)  (K : List SV → Option Box → Option R) : evFn w22_awake_E (Tb44 R) FUEL Tryz.f5 w22_awake_c [] none K = (w22_awake).bind fun r => K [.dat .bool r []] none := by
  rw [w22_awake_t]
  simp only [w22_awake, w22_awake_s0_bind, cond_bind, within_bind, none_bind, some_bind, sum_bind, bind_bind, Sum.elim_inl, Sum.elim_inr]
def w22_awake_g : Pure := fun R l b K => noBox b (args0 l ((w22_awake).bind fun r => K [.dat .bool r []] none))
theorem w22_awake_n : w22_awake_g.Nat := fun R S l b F G K h => noBox_nat (args0_nat (bindr_nat fun _ => h _ _))
def Tb45 : Funs := Tb44.add 5 [] w22_awake_g
theorem Tb45_nat : Tb45.Nat := add_nat Tb44_nat w22_awake_n
theorem Tb45_owes : ∀ f, Owes Tryz.prog Tb45 f := add_owes (E := w22_awake_E) (Tab.env_ok tab_ok _ _ _ _) mixed Tb44_nat Tb44_owes (fn := Tryz.f5) (code := w22_awake_c) Tryz.func5 (by kernel_rfl) (by kernel_rfl) fun l b r b' h => by
  obtain ⟨rfl, h⟩ := noBox_some h
  obtain ⟨h1, h2⟩ := own0 (E := w22_awake_E) rfl h
  exact ⟨FUEL, (h2 _ _ _ _ _ _).trans ((w22_awake_eq _  _).trans h1)⟩
noncomputable abbrev r16_Great_c : Code := Tryz.f7.body.getD .skip
def r16_Great_E : Env := tab.env (fun i => bif Nat.beq i 4 then [1, 3] else []) (fun i => bif Nat.beq i 4 then [2] else []) [] [y4]
def r16_Great_h0 (t3 : Int) (bt1 : Zt15) : State := ⟨uS 1 ([.ptr 2 y4 []]::(uS 1 ([.dat (.int .i64) t3 []]::(uS 25 ([]))))), nS 2 ((some ⟨y4, bt1, []⟩)::(nS 27 ([])))⟩
def r16_Great_x0_0 (t2 : Bool) : State := ⟨uS 2 ([.dat .bool t2 []]::(uS 26 ([]))), nS 30 []⟩
def r16_Great_x0_1  : State := ⟨uS 29 [], nS 30 []⟩
theorem r16_Great_t (R : Type) (kk : Nat) (m_0 : Zt15) (K : List SV → Option Box → Option R) : evFn r16_Great_E (Tb45 R) kk Tryz.f7 r16_Great_c [.dat y4 m_0 []] none K =
  r16_Great_s0 m_0 (fun a0 => K [.dat .bool a0 []] none) (fun a0 a1 => loopR (ev r16_Great_E (Tb45 R) kk (sub [1, 1, 0, 1, 0, 0] r16_Great_c)) [1, 3] [2] kk (r16_Great_h0 a0 a1) (kBlock 0 (kSeq r16_Great_E (Tb45 R) kk (sub [1, 1, 1] r16_Great_c) (kFin r16_Great_E Tryz.f7.results.toList none K)))) := by kernel_rfl
theorem r16_Great_d0 (R : Type) (kk k : Nat) (t3 : Int) (bt1 : Zt15) (K : Ex → State → Option R) : loopR (ev r16_Great_E (Tb45 R) kk (sub [1, 1, 0, 1, 0, 0] r16_Great_c)) [1, 3] [2] (k + 1) (r16_Great_h0 t3 bt1) K =
  r16_Great_s1 t3 bt1 (fun a0 => K .ret (r16_Great_x0_0 a0)) (fun a0 a1 => loopR (ev r16_Great_E (Tb45 R) kk (sub [1, 1, 0, 1, 0, 0] r16_Great_c)) [1, 3] [2] k (r16_Great_h0 a0 a1) K) (K (.exit 0) (r16_Great_x0_1)) := by kernel_rfl
theorem r16_Great_y0_0 (R : Type) (kk : Nat) (t2 : Bool) (K : List SV → Option Box → Option R) : (kBlock 0 (kSeq r16_Great_E (Tb45 R) kk (sub [1, 1, 1] r16_Great_c) (kFin r16_Great_E Tryz.f7.results.toList none K))) .ret (r16_Great_x0_0 t2) =
  r16_Great_s2 t2 (fun a0 => K [.dat .bool a0 []] none) := by kernel_rfl
theorem r16_Great_y0_1 (R : Type) (kk : Nat)  (K : List SV → Option Box → Option R) : (kBlock 0 (kSeq r16_Great_E (Tb45 R) kk (sub [1, 1, 1] r16_Great_c) (kFin r16_Great_E Tryz.f7.results.toList none K))) (.exit 0) (r16_Great_x0_1) =
  r16_Great_s3 (fun a0 => K [.dat .bool a0 []] none) := by kernel_rfl
theorem r16_Great_lp0 (R : Type) (k : Nat) (t3 : Int) (bt1 : Zt15) (K : Ex → State → Option R) : loopR (ev r16_Great_E (Tb45 R) FUEL (sub [1, 1, 0, 1, 0, 0] r16_Great_c)) [1, 3] [2] k (r16_Great_h0 t3 bt1) K = (r16_Great_l0 k t3 bt1).bind fun e => (Sum.elim (fun (we : Bool) => K .ret (r16_Great_x0_0 we)) (fun (we : Unit) => K (.exit 0) (r16_Great_x0_1)) e) := by
  induction k generalizing t3 bt1 with
  | zero => rfl
  | succ k ih =>
    rw [r16_Great_d0]
    simp only [r16_Great_l0, r16_Great_s0_bind, r16_Great_s1_bind, r16_Great_s2_bind, r16_Great_s3_bind, ih, cond_bind, within_bind, none_bind, some_bind, sum_bind, bind_bind, Sum.elim_inl, Sum.elim_inr]
theorem r16_Great_eq (R : Type) (m_0 : Zt15) (K : List SV → Option Box → Option R) : evFn r16_Great_E (Tb45 R) FUEL Tryz.f7 r16_Great_c [.dat y4 m_0 []] none K = (r16_Great m_0).bind fun r => K [.dat .bool r []] none := by
  rw [r16_Great_t]
  simp only [r16_Great, r16_Great_s0_bind, r16_Great_s1_bind, r16_Great_s2_bind, r16_Great_s3_bind, r16_Great_lp0, r16_Great_y0_0, r16_Great_y0_1, cond_bind, within_bind, none_bind, some_bind, sum_bind, bind_bind, Sum.elim_inl, Sum.elim_inr]
def r16_Great_g : Pure := fun R l b K => noBox b (args1 y4 l (fun x0 => (r16_Great x0).bind fun r => K [.dat .bool r []] none))
theorem r16_Great_n : r16_Great_g.Nat := fun R S l b F G K h => noBox_nat (args1_nat fun _ => bindr_nat fun _ => h _ _)
def Tb46 : Funs := Tb45.add 7 [y4] r16_Great_g
theorem Tb46_nat : Tb46.Nat := add_nat Tb45_nat r16_Great_n
theorem Tb46_owes : ∀ f, Owes Tryz.prog Tb46 f := add_owes (E := r16_Great_E) (Tab.env_ok tab_ok _ _ _ _) mixed Tb45_nat Tb45_owes (fn := Tryz.f7) (code := r16_Great_c) Tryz.func7 (by kernel_rfl) (by kernel_rfl) fun l b r b' h => by
  obtain ⟨rfl, h⟩ := noBox_some h
  obtain ⟨x0, h1, h2⟩ := own1 (E := r16_Great_E) rfl h
  exact ⟨FUEL, (h2 _ _ _ _ _ _).trans ((r16_Great_eq _ x0 _).trans h1)⟩
noncomputable abbrev dialect_fixed_c : Code := Tryz.f33.body.getD .skip
def dialect_fixed_E : Env := tab.env (fun _ => []) (fun _ => []) [6] [(.int .i64), (.int .i64), (.int .i64)]
theorem dialect_fixed_t (R : Type) (kk : Nat) (no_0 : Int) (class_1 : Int) (n_2 : Int) (K : List SV → Option Box → Option R) : evFn dialect_fixed_E (Tb46 R) kk Tryz.f33 dialect_fixed_c [.dat (.int .i64) no_0 [], .dat (.int .i64) class_1 [], .dat (.int .i64) n_2 []] none K =
  dialect_fixed_s0 no_0 class_1 n_2 (fun a0 => K [.dat y7 a0 []] none) := by kernel_rfl
theorem dialect_fixed_eq (R : Type) (no_0 : Int) (class_1 : Int) (n_2 : Int) (K : List SV → Option Box → Option R) : evFn dialect_fixed_E (Tb46 R) FUEL Tryz.f33 dialect_fixed_c [.dat (.int .i64) no_0 [], .dat (.int .i64) class_1 [], .dat (.int .i64) n_2 []] none K = (dialect_fixed no_0 class_1 n_2).bind fun r => K [.dat y7 r []] none := by
  rw [dialect_fixed_t]
  simp only [dialect_fixed, dialect_fixed_s0_bind, cond_bind, within_bind, none_bind, some_bind, sum_bind, bind_bind, Sum.elim_inl, Sum.elim_inr]
def dialect_fixed_g : Pure := fun R l b K => noBox b (args3 (.int .i64) (.int .i64) (.int .i64) l (fun x0 x1 x2 => (dialect_fixed x0 x1 x2).bind fun r => K [.dat y7 r []] none))
theorem dialect_fixed_n : dialect_fixed_g.Nat := fun R S l b F G K h => noBox_nat (args3_nat fun _ _ _ => bindr_nat fun _ => h _ _)
def Tb47 : Funs := Tb46.add 33 [(.int .i64), (.int .i64), (.int .i64)] dialect_fixed_g
theorem Tb47_nat : Tb47.Nat := add_nat Tb46_nat dialect_fixed_n
theorem Tb47_owes : ∀ f, Owes Tryz.prog Tb47 f := add_owes (E := dialect_fixed_E) (Tab.env_ok tab_ok _ _ _ _) mixed Tb46_nat Tb46_owes (fn := Tryz.f33) (code := dialect_fixed_c) Tryz.func33 (by kernel_rfl) (by kernel_rfl) fun l b r b' h => by
  obtain ⟨rfl, h⟩ := noBox_some h
  obtain ⟨x0, x1, x2, h1, h2⟩ := own3 (E := dialect_fixed_E) rfl h
  exact ⟨FUEL, (h2 _ _ _ _ _ _).trans ((dialect_fixed_eq _ x0 x1 x2 _).trans h1)⟩
noncomputable abbrev dialect_Acquirer_c : Code := Tryz.f11.body.getD .skip
def dialect_Acquirer_E : Env := tab.env (fun _ => []) (fun _ => []) [0] []
theorem dialect_Acquirer_t (R : Type) (kk : Nat)  (K : List SV → Option Box → Option R) : evFn dialect_Acquirer_E (Tb47 R) kk Tryz.f11 dialect_Acquirer_c [] none K =
  dialect_Acquirer_s0 (fun a0 => K [.dat y13 a0 [[2]]] none) := by kernel_rfl
theorem dialect_Acquirer_eq (R : Type)  (K : List SV → Option Box → Option R) : evFn dialect_Acquirer_E (Tb47 R) FUEL Tryz.f11 dialect_Acquirer_c [] none K = (dialect_Acquirer).bind fun r => K [.dat y13 r [[2]]] none := by
  rw [dialect_Acquirer_t]
  simp only [dialect_Acquirer, dialect_Acquirer_s0_bind, cond_bind, within_bind, none_bind, some_bind, sum_bind, bind_bind, Sum.elim_inl, Sum.elim_inr]
def dialect_Acquirer_g : Pure := fun R l b K => noBox b (args0 l ((dialect_Acquirer).bind fun r => K [.dat y13 r [[2]]] none))
theorem dialect_Acquirer_n : dialect_Acquirer_g.Nat := fun R S l b F G K h => noBox_nat (args0_nat (bindr_nat fun _ => h _ _))
def Tb48 : Funs := Tb47.add 11 [] dialect_Acquirer_g
theorem Tb48_nat : Tb48.Nat := add_nat Tb47_nat dialect_Acquirer_n
theorem Tb48_owes : ∀ f, Owes Tryz.prog Tb48 f := add_owes (E := dialect_Acquirer_E) (Tab.env_ok tab_ok _ _ _ _) mixed Tb47_nat Tb47_owes (fn := Tryz.f11) (code := dialect_Acquirer_c) Tryz.func11 (by kernel_rfl) (by kernel_rfl) fun l b r b' h => by
  obtain ⟨rfl, h⟩ := noBox_some h
  obtain ⟨h1, h2⟩ := own0 (E := dialect_Acquirer_E) rfl h
  exact ⟨FUEL, (h2 _ _ _ _ _ _).trans ((dialect_Acquirer_eq _  _).trans h1)⟩
noncomputable abbrev dialect_Issuer_c : Code := Tryz.f12.body.getD .skip
def dialect_Issuer_E : Env := tab.env (fun _ => []) (fun _ => []) [0] []
theorem dialect_Issuer_t (R : Type) (kk : Nat)  (K : List SV → Option Box → Option R) : evFn dialect_Issuer_E (Tb48 R) kk Tryz.f12 dialect_Issuer_c [] none K =
  dialect_Issuer_s0 (fun a0 => K [.dat y13 a0 [[2]]] none) := by kernel_rfl
theorem dialect_Issuer_eq (R : Type)  (K : List SV → Option Box → Option R) : evFn dialect_Issuer_E (Tb48 R) FUEL Tryz.f12 dialect_Issuer_c [] none K = (dialect_Issuer).bind fun r => K [.dat y13 r [[2]]] none := by
  rw [dialect_Issuer_t]
  simp only [dialect_Issuer, dialect_Issuer_s0_bind, cond_bind, within_bind, none_bind, some_bind, sum_bind, bind_bind, Sum.elim_inl, Sum.elim_inr]
def dialect_Issuer_g : Pure := fun R l b K => noBox b (args0 l ((dialect_Issuer).bind fun r => K [.dat y13 r [[2]]] none))
theorem dialect_Issuer_n : dialect_Issuer_g.Nat := fun R S l b F G K h => noBox_nat (args0_nat (bindr_nat fun _ => h _ _))
def Tb49 : Funs := Tb48.add 12 [] dialect_Issuer_g
theorem Tb49_nat : Tb49.Nat := add_nat Tb48_nat dialect_Issuer_n
theorem Tb49_owes : ∀ f, Owes Tryz.prog Tb49 f := add_owes (E := dialect_Issuer_E) (Tab.env_ok tab_ok _ _ _ _) mixed Tb48_nat Tb48_owes (fn := Tryz.f12) (code := dialect_Issuer_c) Tryz.func12 (by kernel_rfl) (by kernel_rfl) fun l b r b' h => by
  obtain ⟨rfl, h⟩ := noBox_some h
  obtain ⟨h1, h2⟩ := own0 (E := dialect_Issuer_E) rfl h
  exact ⟨FUEL, (h2 _ _ _ _ _ _).trans ((dialect_Issuer_eq _  _).trans h1)⟩
noncomputable abbrev r05_Has_c : Code := Tryz.f14.body.getD .skip
def r05_Has_E : Env := tab.env (fun i => bif Nat.beq i 9 then [7, 8, 9] else []) (fun i => bif Nat.beq i 9 then [7] else []) [] [(.int .u64), (.int .u64), (.int .i64)]
def r05_Has_h0 (t7 : Int) (t8 : Int) (t9 : Int) : State := ⟨uS 7 ([.dat (.int .u64) t7 []]::[.dat (.int .i64) t8 []]::[.dat (.int .i64) t9 []]::(uS 24 ([]))), nS 35 []⟩
def r05_Has_x0_0 (t7 : Int) : State := ⟨uS 7 ([.dat (.int .u64) t7 []]::(uS 26 ([]))), nS 35 []⟩
theorem r05_Has_t (R : Type) (kk : Nat) (high_0 : Int) (low_1 : Int) (n_2 : Int) (K : List SV → Option Box → Option R) : evFn r05_Has_E (Tb49 R) kk Tryz.f14 r05_Has_c [.dat (.int .u64) high_0 [], .dat (.int .u64) low_1 [], .dat (.int .i64) n_2 []] none K =
  r05_Has_s0 high_0 low_1 n_2 (fun a0 => K [.dat .bool a0 []] none) (fun a0 a1 a2 => loopR (ev r05_Has_E (Tb49 R) kk (sub [1, 1, 1, 1, 1, 0, 1, 0, 0] r05_Has_c)) [7, 8, 9] [7] kk (r05_Has_h0 a0 a1 a2) (kBlock 0 (kSeq r05_Has_E (Tb49 R) kk (sub [1, 1, 1, 1, 1, 1] r05_Has_c) (kFin r05_Has_E Tryz.f14.results.toList none K)))) := by kernel_rfl
theorem r05_Has_d0 (R : Type) (kk k : Nat) (t7 : Int) (t8 : Int) (t9 : Int) (K : Ex → State → Option R) : loopR (ev r05_Has_E (Tb49 R) kk (sub [1, 1, 1, 1, 1, 0, 1, 0, 0] r05_Has_c)) [7, 8, 9] [7] (k + 1) (r05_Has_h0 t7 t8 t9) K =
  r05_Has_s1 t7 t8 t9 (fun a0 a1 a2 => loopR (ev r05_Has_E (Tb49 R) kk (sub [1, 1, 1, 1, 1, 0, 1, 0, 0] r05_Has_c)) [7, 8, 9] [7] k (r05_Has_h0 a0 a1 a2) K) (fun a0 => K (.exit 0) (r05_Has_x0_0 a0)) := by kernel_rfl
theorem r05_Has_y0_0 (R : Type) (kk : Nat) (t7 : Int) (K : List SV → Option Box → Option R) : (kBlock 0 (kSeq r05_Has_E (Tb49 R) kk (sub [1, 1, 1, 1, 1, 1] r05_Has_c) (kFin r05_Has_E Tryz.f14.results.toList none K))) (.exit 0) (r05_Has_x0_0 t7) =
  r05_Has_s2 t7 (fun a0 => K [.dat .bool a0 []] none) := by kernel_rfl
theorem r05_Has_lp0 (R : Type) (k : Nat) (t7 : Int) (t8 : Int) (t9 : Int) (K : Ex → State → Option R) : loopR (ev r05_Has_E (Tb49 R) FUEL (sub [1, 1, 1, 1, 1, 0, 1, 0, 0] r05_Has_c)) [7, 8, 9] [7] k (r05_Has_h0 t7 t8 t9) K = (r05_Has_l0 k t7 t8 t9).bind fun e => K (.exit 0) (r05_Has_x0_0 e) := by
  induction k generalizing t7 t8 t9 with
  | zero => rfl
  | succ k ih =>
    rw [r05_Has_d0]
    simp only [r05_Has_l0, r05_Has_s0_bind, r05_Has_s1_bind, r05_Has_s2_bind, ih, cond_bind, within_bind, none_bind, some_bind, sum_bind, bind_bind, Sum.elim_inl, Sum.elim_inr]
theorem r05_Has_eq (R : Type) (high_0 : Int) (low_1 : Int) (n_2 : Int) (K : List SV → Option Box → Option R) : evFn r05_Has_E (Tb49 R) FUEL Tryz.f14 r05_Has_c [.dat (.int .u64) high_0 [], .dat (.int .u64) low_1 [], .dat (.int .i64) n_2 []] none K = (r05_Has high_0 low_1 n_2).bind fun r => K [.dat .bool r []] none := by
  rw [r05_Has_t]
  simp only [r05_Has, r05_Has_s0_bind, r05_Has_s1_bind, r05_Has_s2_bind, r05_Has_lp0, r05_Has_y0_0, cond_bind, within_bind, none_bind, some_bind, sum_bind, bind_bind, Sum.elim_inl, Sum.elim_inr]
def r05_Has_g : Pure := fun R l b K => noBox b (args3 (.int .u64) (.int .u64) (.int .i64) l (fun x0 x1 x2 => (r05_Has x0 x1 x2).bind fun r => K [.dat .bool r []] none))
theorem r05_Has_n : r05_Has_g.Nat := fun R S l b F G K h => noBox_nat (args3_nat fun _ _ _ => bindr_nat fun _ => h _ _)
def Tb50 : Funs := Tb49.add 14 [(.int .u64), (.int .u64), (.int .i64)] r05_Has_g
theorem Tb50_nat : Tb50.Nat := add_nat Tb49_nat r05_Has_n
theorem Tb50_owes : ∀ f, Owes Tryz.prog Tb50 f := add_owes (E := r05_Has_E) (Tab.env_ok tab_ok _ _ _ _) mixed Tb49_nat Tb49_owes (fn := Tryz.f14) (code := r05_Has_c) Tryz.func14 (by kernel_rfl) (by kernel_rfl) fun l b r b' h => by
  obtain ⟨rfl, h⟩ := noBox_some h
  obtain ⟨x0, x1, x2, h1, h2⟩ := own3 (E := r05_Has_E) rfl h
  exact ⟨FUEL, (h2 _ _ _ _ _ _).trans ((r05_Has_eq _ x0 x1 x2 _).trans h1)⟩
noncomputable abbrev msg_Check_c : Code := Tryz.f28.body.getD .skip
def msg_Check_E : Env := tab.env (fun i => bif Nat.beq i 9 then [2, 4, 9, 39, 40, 41] else []) (fun i => bif Nat.beq i 9 then [4] else []) [4] [y13, y4]
def msg_Check_h0 (t9 : Int) (t39 : Zt9) (t40 : Int) (t41 : Int) (bt2 : Zt16) (bt4 : Zt4) : State := ⟨uS 2 ([.ptr 3 y13 []]::(uS 1 ([.ptr 5 (.pair (.int .i64) (.pair (.int .i64) .unit)) []]::(uS 4 ([.dat (.int .i64) t9 []]::(uS 29 ([.dat (.sl 44 (.pair (.int .i64) (.pair .str .unit))) t39 []]::[.dat (.int .i64) t40 []]::[.dat (.int .i64) t41 []]::(uS 36 ([]))))))))), nS 3 ((some ⟨y13, bt2, []⟩)::(nS 1 ((some ⟨(.pair (.int .i64) (.pair (.int .i64) .unit)), bt4, []⟩)::(nS 73 ([])))))⟩
def msg_Check_x0_0 (bt4 : Zt4) : State := ⟨uS 4 ([.ptr 5 (.pair (.int .i64) (.pair (.int .i64) .unit)) []]::(uS 73 ([]))), nS 5 ((some ⟨(.pair (.int .i64) (.pair (.int .i64) .unit)), bt4, []⟩)::(nS 73 ([])))⟩
def msg_Check_x0_1 (bt4 : Zt4) : State := ⟨uS 4 ([.ptr 5 (.pair (.int .i64) (.pair (.int .i64) .unit)) []]::(uS 73 ([]))), nS 5 ((some ⟨(.pair (.int .i64) (.pair (.int .i64) .unit)), bt4, []⟩)::(nS 73 ([])))⟩
theorem msg_Check_t (R : Type) (kk : Nat) (s_0 : Zt16) (m_1 : Zt15) (K : List SV → Option Box → Option R) : evFn msg_Check_E (Tb50 R) kk Tryz.f28 msg_Check_c [.dat y13 s_0 [], .dat y4 m_1 []] none K =
  msg_Check_s0 s_0 m_1 (fun a0 => K [.dat (.pair (.int .i64) (.pair (.int .i64) .unit)) a0 []] none) (fun a0 a1 a2 a3 a4 a5 => loopR (ev msg_Check_E (Tb50 R) kk (sub [1, 1, 1, 1, 0, 1, 0, 0] msg_Check_c)) [2, 4, 9, 39, 40, 41] [4] kk (msg_Check_h0 a0 a1 a2 a3 a4 a5) (kBlock 0 (kSeq msg_Check_E (Tb50 R) kk (sub [1, 1, 1, 1, 1] msg_Check_c) (kFin msg_Check_E Tryz.f28.results.toList none K)))) := by kernel_rfl
theorem msg_Check_d0 (R : Type) (kk k : Nat) (t9 : Int) (t39 : Zt9) (t40 : Int) (t41 : Int) (bt2 : Zt16) (bt4 : Zt4) (K : Ex → State → Option R) : loopR (ev msg_Check_E (Tb50 R) kk (sub [1, 1, 1, 1, 0, 1, 0, 0] msg_Check_c)) [2, 4, 9, 39, 40, 41] [4] (k + 1) (msg_Check_h0 t9 t39 t40 t41 bt2 bt4) K =
  msg_Check_s1 t9 t39 t40 t41 bt2 bt4 (fun a0 => K .ret (msg_Check_x0_0 a0)) (fun a0 a1 a2 a3 a4 a5 => loopR (ev msg_Check_E (Tb50 R) kk (sub [1, 1, 1, 1, 0, 1, 0, 0] msg_Check_c)) [2, 4, 9, 39, 40, 41] [4] k (msg_Check_h0 a0 a1 a2 a3 a4 a5) K) (fun a0 => K (.exit 0) (msg_Check_x0_1 a0)) := by kernel_rfl
theorem msg_Check_y0_0 (R : Type) (kk : Nat) (bt4 : Zt4) (K : List SV → Option Box → Option R) : (kBlock 0 (kSeq msg_Check_E (Tb50 R) kk (sub [1, 1, 1, 1, 1] msg_Check_c) (kFin msg_Check_E Tryz.f28.results.toList none K))) .ret (msg_Check_x0_0 bt4) =
  msg_Check_s2 bt4 (fun a0 => K [.dat (.pair (.int .i64) (.pair (.int .i64) .unit)) a0 []] none) := by kernel_rfl
theorem msg_Check_y0_1 (R : Type) (kk : Nat) (bt4 : Zt4) (K : List SV → Option Box → Option R) : (kBlock 0 (kSeq msg_Check_E (Tb50 R) kk (sub [1, 1, 1, 1, 1] msg_Check_c) (kFin msg_Check_E Tryz.f28.results.toList none K))) (.exit 0) (msg_Check_x0_1 bt4) =
  msg_Check_s3 bt4 (fun a0 => K [.dat (.pair (.int .i64) (.pair (.int .i64) .unit)) a0 []] none) := by kernel_rfl
theorem msg_Check_lp0 (R : Type) (k : Nat) (t9 : Int) (t39 : Zt9) (t40 : Int) (t41 : Int) (bt2 : Zt16) (bt4 : Zt4) (K : Ex → State → Option R) : loopR (ev msg_Check_E (Tb50 R) FUEL (sub [1, 1, 1, 1, 0, 1, 0, 0] msg_Check_c)) [2, 4, 9, 39, 40, 41] [4] k (msg_Check_h0 t9 t39 t40 t41 bt2 bt4) K = (msg_Check_l0 k t9 t39 t40 t41 bt2 bt4).bind fun e => (Sum.elim (fun (we : Zt4) => K .ret (msg_Check_x0_0 we)) (fun (we : Zt4) => K (.exit 0) (msg_Check_x0_1 we)) e) := by
  induction k generalizing t9 t39 t40 t41 bt2 bt4 with
  | zero => rfl
  | succ k ih =>
    rw [msg_Check_d0]
    simp only [msg_Check_l0, msg_Check_s0_bind, msg_Check_s1_bind, msg_Check_s2_bind, msg_Check_s3_bind, ih, cond_bind, within_bind, none_bind, some_bind, sum_bind, bind_bind, Sum.elim_inl, Sum.elim_inr]
theorem msg_Check_eq (R : Type) (s_0 : Zt16) (m_1 : Zt15) (K : List SV → Option Box → Option R) : evFn msg_Check_E (Tb50 R) FUEL Tryz.f28 msg_Check_c [.dat y13 s_0 [], .dat y4 m_1 []] none K = (msg_Check s_0 m_1).bind fun r => K [.dat (.pair (.int .i64) (.pair (.int .i64) .unit)) r []] none := by
  rw [msg_Check_t]
  simp only [msg_Check, msg_Check_s0_bind, msg_Check_s1_bind, msg_Check_s2_bind, msg_Check_s3_bind, msg_Check_lp0, msg_Check_y0_0, msg_Check_y0_1, cond_bind, within_bind, none_bind, some_bind, sum_bind, bind_bind, Sum.elim_inl, Sum.elim_inr]
def msg_Check_g : Pure := fun R l b K => noBox b (args2 y13 y4 l (fun x0 x1 => (msg_Check x0 x1).bind fun r => K [.dat (.pair (.int .i64) (.pair (.int .i64) .unit)) r []] none))
theorem msg_Check_n : msg_Check_g.Nat := fun R S l b F G K h => noBox_nat (args2_nat fun _ _ => bindr_nat fun _ => h _ _)
def Tb51 : Funs := Tb50.add 28 [y13, y4] msg_Check_g
theorem Tb51_nat : Tb51.Nat := add_nat Tb50_nat msg_Check_n
theorem Tb51_owes : ∀ f, Owes Tryz.prog Tb51 f := add_owes (E := msg_Check_E) (Tab.env_ok tab_ok _ _ _ _) mixed Tb50_nat Tb50_owes (fn := Tryz.f28) (code := msg_Check_c) Tryz.func28 (by kernel_rfl) (by kernel_rfl) fun l b r b' h => by
  obtain ⟨rfl, h⟩ := noBox_some h
  obtain ⟨x0, x1, h1, h2⟩ := own2 (E := msg_Check_E) rfl h
  exact ⟨FUEL, (h2 _ _ _ _ _ _).trans ((msg_Check_eq _ x0 x1 _).trans h1)⟩
noncomputable abbrev xlate_head_c : Code := Tryz.f29.body.getD .skip
def xlate_head_E : Env := tab.env (fun i => bif Nat.beq i 2 then [1, 9, 10, 11] else []) (fun i => bif Nat.beq i 2 then [4, 5] else []) [] [y14, .str]
def xlate_head_h0 (t_1 : ByteArray) (t9 : Zt12) (t10 : Int) (t11 : Int) : State := ⟨uS 1 ([.dat .str t_1 []]::(uS 7 ([.dat (.sl 42 (.pair .str (.pair .str .unit))) t9 []]::[.dat (.int .i64) t10 []]::[.dat (.int .i64) t11 []]::(uS 10 ([]))))), nS 23 []⟩
def xlate_head_x0_0 (t4 : ByteArray) (t5 : Bool) : State := ⟨uS 4 ([.dat .str t4 []]::[.dat .bool t5 []]::(uS 16 ([]))), nS 23 []⟩
def xlate_head_x0_1  : State := ⟨uS 22 [], nS 23 []⟩
theorem xlate_head_t (R : Type) (kk : Nat) (m_0 : Zt22) (t_1 : ByteArray) (K : List SV → Option Box → Option R) : evFn xlate_head_E (Tb51 R) kk Tryz.f29 xlate_head_c [.dat y14 m_0 [], .dat .str t_1 []] none K =
  xlate_head_s0 m_0 t_1 (fun a0 a1 a2 a3 => loopR (ev xlate_head_E (Tb51 R) kk (sub [1, 0, 1, 0, 0] xlate_head_c)) [1, 9, 10, 11] [4, 5] kk (xlate_head_h0 a0 a1 a2 a3) (kBlock 0 (kSeq xlate_head_E (Tb51 R) kk (sub [1, 1] xlate_head_c) (kFin xlate_head_E Tryz.f29.results.toList none K)))) := by kernel_rfl
theorem xlate_head_d0 (R : Type) (kk k : Nat) (t_1 : ByteArray) (t9 : Zt12) (t10 : Int) (t11 : Int) (K : Ex → State → Option R) : loopR (ev xlate_head_E (Tb51 R) kk (sub [1, 0, 1, 0, 0] xlate_head_c)) [1, 9, 10, 11] [4, 5] (k + 1) (xlate_head_h0 t_1 t9 t10 t11) K =
  xlate_head_s1 t_1 t9 t10 t11 (fun a0 a1 => K .ret (xlate_head_x0_0 a0 a1)) (fun a0 a1 a2 a3 => loopR (ev xlate_head_E (Tb51 R) kk (sub [1, 0, 1, 0, 0] xlate_head_c)) [1, 9, 10, 11] [4, 5] k (xlate_head_h0 a0 a1 a2 a3) K) (K (.exit 0) (xlate_head_x0_1)) := by kernel_rfl
theorem xlate_head_y0_0 (R : Type) (kk : Nat) (t4 : ByteArray) (t5 : Bool) (K : List SV → Option Box → Option R) : (kBlock 0 (kSeq xlate_head_E (Tb51 R) kk (sub [1, 1] xlate_head_c) (kFin xlate_head_E Tryz.f29.results.toList none K))) .ret (xlate_head_x0_0 t4 t5) =
  xlate_head_s2 t4 t5 (fun a0 a1 => K [.dat .str a0 [], .dat .bool a1 []] none) := by kernel_rfl
theorem xlate_head_y0_1 (R : Type) (kk : Nat)  (K : List SV → Option Box → Option R) : (kBlock 0 (kSeq xlate_head_E (Tb51 R) kk (sub [1, 1] xlate_head_c) (kFin xlate_head_E Tryz.f29.results.toList none K))) (.exit 0) (xlate_head_x0_1) =
  xlate_head_s3 (fun a0 a1 => K [.dat .str a0 [], .dat .bool a1 []] none) := by kernel_rfl
theorem xlate_head_lp0 (R : Type) (k : Nat) (t_1 : ByteArray) (t9 : Zt12) (t10 : Int) (t11 : Int) (K : Ex → State → Option R) : loopR (ev xlate_head_E (Tb51 R) FUEL (sub [1, 0, 1, 0, 0] xlate_head_c)) [1, 9, 10, 11] [4, 5] k (xlate_head_h0 t_1 t9 t10 t11) K = (xlate_head_l0 k t_1 t9 t10 t11).bind fun e => (Sum.elim (fun (we : Zt3) => K .ret (xlate_head_x0_0 we.1 we.2)) (fun (we : Unit) => K (.exit 0) (xlate_head_x0_1)) e) := by
  induction k generalizing t_1 t9 t10 t11 with
  | zero => rfl
  | succ k ih =>
    rw [xlate_head_d0]
    simp only [xlate_head_l0, xlate_head_s0_bind, xlate_head_s1_bind, xlate_head_s2_bind, xlate_head_s3_bind, ih, cond_bind, within_bind, none_bind, some_bind, sum_bind, bind_bind, Sum.elim_inl, Sum.elim_inr]
theorem xlate_head_eq (R : Type) (m_0 : Zt22) (t_1 : ByteArray) (K : List SV → Option Box → Option R) : evFn xlate_head_E (Tb51 R) FUEL Tryz.f29 xlate_head_c [.dat y14 m_0 [], .dat .str t_1 []] none K = (xlate_head m_0 t_1).bind fun r => K [.dat .str r.1 [], .dat .bool r.2 []] none := by
  rw [xlate_head_t]
  simp only [xlate_head, xlate_head_s0_bind, xlate_head_s1_bind, xlate_head_s2_bind, xlate_head_s3_bind, xlate_head_lp0, xlate_head_y0_0, xlate_head_y0_1, cond_bind, within_bind, none_bind, some_bind, sum_bind, bind_bind, Sum.elim_inl, Sum.elim_inr]
def xlate_head_g : Pure := fun R l b K => noBox b (args2 y14 .str l (fun x0 x1 => (xlate_head x0 x1).bind fun r => K [.dat .str r.1 [], .dat .bool r.2 []] none))
theorem xlate_head_n : xlate_head_g.Nat := fun R S l b F G K h => noBox_nat (args2_nat fun _ _ => bindr_nat fun _ => h _ _)
def Tb52 : Funs := Tb51.add 29 [y14, .str] xlate_head_g
theorem Tb52_nat : Tb52.Nat := add_nat Tb51_nat xlate_head_n
theorem Tb52_owes : ∀ f, Owes Tryz.prog Tb52 f := add_owes (E := xlate_head_E) (Tab.env_ok tab_ok _ _ _ _) mixed Tb51_nat Tb51_owes (fn := Tryz.f29) (code := xlate_head_c) Tryz.func29 (by kernel_rfl) (by kernel_rfl) fun l b r b' h => by
  obtain ⟨rfl, h⟩ := noBox_some h
  obtain ⟨x0, x1, h1, h2⟩ := own2 (E := xlate_head_E) rfl h
  exact ⟨FUEL, (h2 _ _ _ _ _ _).trans ((xlate_head_eq _ x0 x1 _).trans h1)⟩
noncomputable abbrev msg_Without_c : Code := Tryz.f56.body.getD .skip
def msg_Without_E : Env := tab.env (fun i => bif Nat.beq i 3 then [1, 4, 5, 12, 13, 14] else []) (fun i => bif Nat.beq i 3 then [4, 5] else []) [4] [y4, (.int .i64)]
def msg_Without_h0 (no_1 : Int) (t12 : Zt9) (t13 : Int) (t14 : Int) (bt4 : Zt15) (bt5 : Zt15) : State := ⟨uS 1 ([.dat (.int .i64) no_1 []]::(uS 2 ([.ptr 5 y4 []]::[.ptr 6 y4 []]::(uS 6 ([.dat (.sl 44 (.pair (.int .i64) (.pair .str .unit))) t12 []]::[.dat (.int .i64) t13 []]::[.dat (.int .i64) t14 []]::(uS 15 ([]))))))), nS 5 ((some ⟨y4, bt4, [[1]]⟩)::(some ⟨y4, bt5, [[1]]⟩)::(nS 24 ([])))⟩
def msg_Without_x0_0 (bt4 : Zt15) (bt5 : Zt15) : State := ⟨uS 4 ([.ptr 5 y4 []]::[.ptr 6 y4 []]::(uS 24 ([]))), nS 5 ((some ⟨y4, bt4, [[1]]⟩)::(some ⟨y4, bt5, [[1]]⟩)::(nS 24 ([])))⟩
theorem msg_Without_t (R : Type) (kk : Nat) (m_0 : Zt15) (no_1 : Int) (K : List SV → Option Box → Option R) : evFn msg_Without_E (Tb52 R) kk Tryz.f56 msg_Without_c [.dat y4 m_0 [], .dat (.int .i64) no_1 []] none K =
  msg_Without_s0 m_0 no_1 (fun a0 a1 a2 a3 a4 a5 => loopR (ev msg_Without_E (Tb52 R) kk (sub [1, 1, 0, 1, 0, 0] msg_Without_c)) [1, 4, 5, 12, 13, 14] [4, 5] kk (msg_Without_h0 a0 a1 a2 a3 a4 a5) (kBlock 0 (kSeq msg_Without_E (Tb52 R) kk (sub [1, 1, 1] msg_Without_c) (kFin msg_Without_E Tryz.f56.results.toList none K)))) := by kernel_rfl
theorem msg_Without_d0 (R : Type) (kk k : Nat) (no_1 : Int) (t12 : Zt9) (t13 : Int) (t14 : Int) (bt4 : Zt15) (bt5 : Zt15) (K : Ex → State → Option R) : loopR (ev msg_Without_E (Tb52 R) kk (sub [1, 1, 0, 1, 0, 0] msg_Without_c)) [1, 4, 5, 12, 13, 14] [4, 5] (k + 1) (msg_Without_h0 no_1 t12 t13 t14 bt4 bt5) K =
  msg_Without_s1 no_1 t12 t13 t14 bt4 bt5 (fun a0 a1 a2 a3 a4 a5 => loopR (ev msg_Without_E (Tb52 R) kk (sub [1, 1, 0, 1, 0, 0] msg_Without_c)) [1, 4, 5, 12, 13, 14] [4, 5] k (msg_Without_h0 a0 a1 a2 a3 a4 a5) K) (fun a0 a1 => K (.exit 0) (msg_Without_x0_0 a0 a1)) := by kernel_rfl
theorem msg_Without_y0_0 (R : Type) (kk : Nat) (bt4 : Zt15) (bt5 : Zt15) (K : List SV → Option Box → Option R) : (kBlock 0 (kSeq msg_Without_E (Tb52 R) kk (sub [1, 1, 1] msg_Without_c) (kFin msg_Without_E Tryz.f56.results.toList none K))) (.exit 0) (msg_Without_x0_0 bt4 bt5) =
  msg_Without_s2 bt4 bt5 (fun a0 => K [.dat y4 a0 [[1]]] none) := by kernel_rfl
theorem msg_Without_lp0 (R : Type) (k : Nat) (no_1 : Int) (t12 : Zt9) (t13 : Int) (t14 : Int) (bt4 : Zt15) (bt5 : Zt15) (K : Ex → State → Option R) : loopR (ev msg_Without_E (Tb52 R) FUEL (sub [1, 1, 0, 1, 0, 0] msg_Without_c)) [1, 4, 5, 12, 13, 14] [4, 5] k (msg_Without_h0 no_1 t12 t13 t14 bt4 bt5) K = (msg_Without_l0 k no_1 t12 t13 t14 bt4 bt5).bind fun e => K (.exit 0) (msg_Without_x0_0 e.1 e.2) := by
  induction k generalizing no_1 t12 t13 t14 bt4 bt5 with
  | zero => rfl
  | succ k ih =>
    rw [msg_Without_d0]
    simp only [msg_Without_l0, msg_Without_s0_bind, msg_Without_s1_bind, msg_Without_s2_bind, ih, cond_bind, within_bind, none_bind, some_bind, sum_bind, bind_bind, Sum.elim_inl, Sum.elim_inr]
theorem msg_Without_eq (R : Type) (m_0 : Zt15) (no_1 : Int) (K : List SV → Option Box → Option R) : evFn msg_Without_E (Tb52 R) FUEL Tryz.f56 msg_Without_c [.dat y4 m_0 [], .dat (.int .i64) no_1 []] none K = (msg_Without m_0 no_1).bind fun r => K [.dat y4 r [[1]]] none := by
  rw [msg_Without_t]
  simp only [msg_Without, msg_Without_s0_bind, msg_Without_s1_bind, msg_Without_s2_bind, msg_Without_lp0, msg_Without_y0_0, cond_bind, within_bind, none_bind, some_bind, sum_bind, bind_bind, Sum.elim_inl, Sum.elim_inr]
def msg_Without_g : Pure := fun R l b K => noBox b (args2 y4 (.int .i64) l (fun x0 x1 => (msg_Without x0 x1).bind fun r => K [.dat y4 r [[1]]] none))
theorem msg_Without_n : msg_Without_g.Nat := fun R S l b F G K h => noBox_nat (args2_nat fun _ _ => bindr_nat fun _ => h _ _)
def Tb53 : Funs := Tb52.add 56 [y4, (.int .i64)] msg_Without_g
theorem Tb53_nat : Tb53.Nat := add_nat Tb52_nat msg_Without_n
theorem Tb53_owes : ∀ f, Owes Tryz.prog Tb53 f := add_owes (E := msg_Without_E) (Tab.env_ok tab_ok _ _ _ _) mixed Tb52_nat Tb52_owes (fn := Tryz.f56) (code := msg_Without_c) Tryz.func56 (by kernel_rfl) (by kernel_rfl) fun l b r b' h => by
  obtain ⟨rfl, h⟩ := noBox_some h
  obtain ⟨x0, x1, h1, h2⟩ := own2 (E := msg_Without_E) rfl h
  exact ⟨FUEL, (h2 _ _ _ _ _ _).trans ((msg_Without_eq _ x0 x1 _).trans h1)⟩
noncomputable abbrev msg_With_1_c : Code := Tryz.f58.body.getD .skip
def msg_With_1_E : Env := tab.env (fun _ => []) (fun _ => []) [] [(.pair (.int .i64) (.pair .str .unit)), .unit]
theorem msg_With_1_t (R : Type) (kk : Nat) (x_0 : Zt6) (free_1 : Int) (K : List SV → Option Box → Option R) : evFn msg_With_1_E (Tb53 R) kk Tryz.f58 msg_With_1_c [.dat (.pair (.int .i64) (.pair .str .unit)) x_0 [], .ptr 0 (.int .i64) []] (some ⟨(.int .i64), free_1, []⟩) K =
  msg_With_1_s0 x_0 free_1 (fun a0 a1 => K [.dat .bool a0 []] (some ⟨(.int .i64), a1, []⟩)) := by kernel_rfl
theorem msg_With_1_eq (R : Type) (x_0 : Zt6) (free_1 : Int) (K : List SV → Option Box → Option R) : evFn msg_With_1_E (Tb53 R) FUEL Tryz.f58 msg_With_1_c [.dat (.pair (.int .i64) (.pair .str .unit)) x_0 [], .ptr 0 (.int .i64) []] (some ⟨(.int .i64), free_1, []⟩) K = (msg_With_1 x_0 free_1).bind fun r => K [.dat .bool r.1 []] (some ⟨(.int .i64), r.2, []⟩) := by
  rw [msg_With_1_t]
  simp only [msg_With_1, msg_With_1_s0_bind, cond_bind, within_bind, none_bind, some_bind, sum_bind, bind_bind, Sum.elim_inl, Sum.elim_inr]
def msg_With_1_g : Pure := fun R l b K => argZ1 (.pair (.int .i64) (.pair .str .unit)) (.int .i64) (.int .i64) [] l b fun x0 x => (msg_With_1 x0 x).bind fun r => K [.dat .bool r.1 []] (some ⟨(.int .i64), r.2, []⟩)
theorem msg_With_1_n : msg_With_1_g.Nat := fun R S l b F G K h => argZ1_nat fun _ _ => bindr_nat fun _ => h _ _
def Tb54 : Funs := Tb53.add 58 [(.pair (.int .i64) (.pair .str .unit)), .unit] msg_With_1_g
theorem Tb54_nat : Tb54.Nat := add_nat Tb53_nat msg_With_1_n
theorem Tb54_owes : ∀ f, Owes Tryz.prog Tb54 f := add_owes (E := msg_With_1_E) (Tab.env_ok tab_ok _ _ _ _) mixed Tb53_nat Tb53_owes (fn := Tryz.f58) (code := msg_With_1_c) Tryz.func58 (by kernel_rfl) (by kernel_rfl) fun l b r b' h => by
  obtain ⟨x0, x, rfl, h1, h2⟩ := ownZ1 (E := msg_With_1_E) rfl h
  exact ⟨FUEL, (h2 _ _ _ _ _ _).trans ((msg_With_1_eq _ x0 x _).trans h1)⟩
noncomputable abbrev slices_IndexFunc_api_Value_api_Value_at_msg_With_1_c : Code := Tryz.f57.body.getD .skip
def slices_IndexFunc_api_Value_api_Value_at_msg_With_1_E : Env := tab.env (fun i => bif Nat.beq i 2 then [0, 1, 7, 8] else []) (fun i => bif Nat.beq i 2 then [4] else []) [] [(.sl 44 (.pair (.int .i64) (.pair .str .unit))), .unit]
def slices_IndexFunc_api_Value_api_Value_at_msg_With_1_h0 (a_0 : Zt9) (t7 : Int) (t8 : Int) (recv : Int) : State := ⟨[.dat (.sl 44 (.pair (.int .i64) (.pair .str .unit))) a_0 []]::[.ptr 0 (.spc (.clo 58) (.int .i64) .unit) []]::(uS 5 ([.dat (.int .i64) t7 []]::[.dat (.int .i64) t8 []]::(uS 10 ([])))), (some ⟨(.int .i64), recv, []⟩)::(nS 19 ([]))⟩
def slices_IndexFunc_api_Value_api_Value_at_msg_With_1_x0_0 (t4 : Int) (recv : Int) : State := ⟨uS 4 ([.dat (.int .i64) t4 []]::(uS 14 ([]))), (some ⟨(.int .i64), recv, []⟩)::(nS 19 ([]))⟩
def slices_IndexFunc_api_Value_api_Value_at_msg_With_1_x0_1 (recv : Int) : State := ⟨uS 19 [], (some ⟨(.int .i64), recv, []⟩)::(nS 19 ([]))⟩
theorem slices_IndexFunc_api_Value_api_Value_at_msg_With_1_t (R : Type) (kk : Nat) (a_0 : Zt9) (a_1 : Int) (K : List SV → Option Box → Option R) : evFn slices_IndexFunc_api_Value_api_Value_at_msg_With_1_E (Tb54 R) kk Tryz.f57 slices_IndexFunc_api_Value_api_Value_at_msg_With_1_c [.dat (.sl 44 (.pair (.int .i64) (.pair .str .unit))) a_0 [], .ptr 0 (.spc (.clo 58) (.int .i64) .unit) []] (some ⟨(.int .i64), a_1, []⟩) K =
  slices_IndexFunc_api_Value_api_Value_at_msg_With_1_s0 a_0 a_1 (fun a0 a1 a2 a3 => loopR (ev slices_IndexFunc_api_Value_api_Value_at_msg_With_1_E (Tb54 R) kk (sub [1, 0, 1, 0, 0] slices_IndexFunc_api_Value_api_Value_at_msg_With_1_c)) [0, 1, 7, 8] [4] kk (slices_IndexFunc_api_Value_api_Value_at_msg_With_1_h0 a0 a1 a2 a3) (kBlock 0 (kSeq slices_IndexFunc_api_Value_api_Value_at_msg_With_1_E (Tb54 R) kk (sub [1, 1] slices_IndexFunc_api_Value_api_Value_at_msg_With_1_c) (kFin slices_IndexFunc_api_Value_api_Value_at_msg_With_1_E Tryz.f57.results.toList (some ⟨(.int .i64), a_1, []⟩) K)))) := by kernel_rfl
end Go.Proofs.YthdphoohfdiodaaGreatDoor
