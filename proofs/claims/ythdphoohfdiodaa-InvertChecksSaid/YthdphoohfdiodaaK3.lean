/- No condition. -/
import Derived.Test.YthdphoohfdiodaaK2
set_option linter.unusedVariables false
set_option linter.unusedSimpArgs false
namespace Groat
open Go Go.Ref
theorem tag_total (s : ByteArray) (hs : s.size ≤ 9223372036854775000) (a : Int) (h0 : 0 ≤ a) (h1 : a < s.size) : ∃ r, groatref08_Get s a = some r ∧ (r.2.2 = 0 → a < r.2.1 ∧ r.2.1 ≤ s.size) := by
  unfold groatref08_Get groatref08_Get_s0
  have wa : ∀ {R : Type} (x : Option R), within a s.size x = x := fun x => within_int (by omega) (by omega)
  rw [decide_eq_false (by omega : ¬ a < 0), decide_eq_false (by omega : ¬ (s.size : Int) < a), decide_eq_false (by omega : ¬ a = (s.size : Int))]
  simp only [cond_false, wa]
  obtain ⟨x, hx⟩ := byte_fin (byteAt_byte s a.toNat)
  have w1 : IntKind.i64.wrap (a + 1) = a + 1 := i64_id (by omega) (by omega)
  have w4 : IntKind.i64.wrap ((s.size : Int) - a) = (s.size : Int) - a := i64_id (by omega) (by omega)
  rw [hx, w1, w4]
  rcases first2_fin x with h | ⟨h, h31⟩ | ⟨h, h31⟩
  · rw [h]; exact ⟨_, rfl, fun h => by cases h⟩
  · rw [h]
    exact ⟨_, rfl, fun _ => ⟨by show a < a + 1; omega, by show a + 1 ≤ _; omega⟩⟩
  · rw [h, Option.bind_some]
    simp only [show decide ((2 : Int) = 0) = false from rfl, show decide ((2 : Int) = 1) = false from rfl, cond_false]
    by_cases h4 : (s.size : Int) - a < 2
    · rw [decide_eq_true h4]; exact ⟨_, rfl, fun h => by cases h⟩
    · have wb : ∀ {R : Type} (x : Option R), within (a + 1) s.size x = x := fun x => within_int (by omega) (by omega)
      have w2 : IntKind.i64.wrap (a + 2) = a + 2 := i64_id (by omega) (by omega)
      rw [decide_eq_false h4]
      simp only [cond_false, wb]
      generalize decide (byteAt s (a + 1).toNat = 0) = c1
      generalize decide ((127 : Int) < byteAt s (a + 1).toNat) = c2
      cases c1
      · cases c2
        · exact ⟨_, rfl, fun _ => ⟨by show a < IntKind.i64.wrap (a + 2); rw [w2]; omega, by show IntKind.i64.wrap (a + 2) ≤ _; rw [w2]; omega⟩⟩
        · exact ⟨_, rfl, fun h => by cases h⟩
      · exact ⟨_, rfl, fun h => by cases h⟩
theorem ber_total (s : ByteArray) (hs : s.size ≤ 9223372036854775000) (a : Int) (h0 : 0 ≤ a) (h1 : a ≤ s.size) : ∃ r, groatref09_Get s a = some r ∧ (r.2.2 = 0 → a < r.2.1 ∧ r.2.1 ≤ s.size ∧ 0 ≤ r.1 ∧ r.1 ≤ 65535) := by
  unfold groatref09_Get groatref09_Get_s0
  rw [decide_eq_false (by omega : ¬ a < 0), decide_eq_false (by omega : ¬ (s.size : Int) < a)]
  simp only [cond_false]
  by_cases he : a = (s.size : Int)
  · rw [decide_eq_true he]; exact ⟨_, rfl, fun h => by cases h⟩
  have wa : ∀ {R : Type} (x : Option R), within a s.size x = x := fun x => within_int (by omega) (by omega)
  rw [decide_eq_false he]
  simp only [cond_false, wa]
  obtain ⟨x, hx⟩ := byte_fin (byteAt_byte s a.toNat)
  have hx2 := x.2
  have w1 : IntKind.i64.wrap (a + 1) = a + 1 := i64_id (by omega) (by omega)
  have w2 : IntKind.i64.wrap (x.1 : Int) = (x.1 : Int) := i64_id (by omega) (by omega)
  have w4 : IntKind.i64.wrap ((s.size : Int) - a) = (s.size : Int) - a := i64_id (by omega) (by omega)
  have w7 : IntKind.i64.wrap ((x.1 : Int) - 127) = (x.1 : Int) - 127 := i64_id (by omega) (by omega)
  simp only [hx, w2, w1, w4, w7]
  by_cases h4 : (x.1 : Int) < 128
  · rw [decide_eq_true h4]
    exact ⟨_, rfl, fun _ => ⟨by show a < a + 1; omega, by show a + 1 ≤ _; omega, by show (0 : Int) ≤ (x.1 : Int); omega, by show (x.1 : Int) ≤ 65535; omega⟩⟩
  rw [decide_eq_false h4]
  have h08 : ∀ i, isByte (byteAt s i) := byteAt_byte s
  by_cases h5 : (x.1 : Int) = 129
  · have wb : (s.size : Int) - a < (x.1 : Int) - 127 ∨ ∀ {R : Type} (x : Option R), within (a + 1) s.size x = x := by
      by_cases h : (s.size : Int) - a < (x.1 : Int) - 127
      · exact .inl h
      · exact .inr fun x => within_int (by omega) (by omega)
    rw [decide_eq_true h5]
    simp only [Bool.not_true, cond_false, cond_true]
    by_cases h6 : (s.size : Int) - a < (x.1 : Int) - 127
    · rw [decide_eq_true h6]; exact ⟨_, rfl, fun h => by cases h⟩
    · have wb : ∀ {R : Type} (x : Option R), within (a + 1) s.size x = x := fun x => within_int (by omega) (by omega)
      have w8 : IntKind.i64.wrap (a + 2) = a + 2 := i64_id (by omega) (by omega)
      obtain ⟨y, hy⟩ := byte_fin (h08 (a + 1).toNat)
      have hy2 := y.2
      have w3 : IntKind.i64.wrap (y.1 : Int) = (y.1 : Int) := i64_id (by omega) (by omega)
      rw [decide_eq_false h6]
      simp only [cond_false, wb, hy, w3, w8]
      generalize decide ((y.1 : Int) < 128) = c
      cases c
      · exact ⟨_, rfl, fun _ => ⟨by show a < a + 2; omega, by show a + 2 ≤ _; omega, by show (0 : Int) ≤ (y.1 : Int); omega, by show (y.1 : Int) ≤ 65535; omega⟩⟩
      · exact ⟨_, rfl, fun h => by cases h⟩
  · rw [decide_eq_false h5]
    simp only [Bool.not_false, cond_false, cond_true]
    by_cases h9 : (x.1 : Int) = 130
    · rw [decide_eq_true h9]
      simp only [Bool.not_true, cond_false]
      by_cases h6 : (s.size : Int) - a < (x.1 : Int) - 127
      · rw [decide_eq_true h6]; exact ⟨_, rfl, fun h => by cases h⟩
      · have wb : ∀ {R : Type} (x : Option R), within (a + 1) s.size x = x := fun x => within_int (by omega) (by omega)
        have w8 : IntKind.i64.wrap (a + 2) = a + 2 := i64_id (by omega) (by omega)
        have w9 : IntKind.i64.wrap (a + 3) = a + 3 := i64_id (by omega) (by omega)
        have wd : ∀ {R : Type} (x : Option R), within (a + 2) s.size x = x := fun x => within_int (by omega) (by omega)
        obtain ⟨y, hy⟩ := byte_fin (h08 (a + 1).toNat)
        obtain ⟨z, hz⟩ := byte_fin (h08 (a + 2).toNat)
        have hy2 := y.2
        have hz2 := z.2
        have w3 : IntKind.i64.wrap (y.1 : Int) = (y.1 : Int) := i64_id (by omega) (by omega)
        have w3' : IntKind.i64.wrap (z.1 : Int) = (z.1 : Int) := i64_id (by omega) (by omega)
        have w5' : IntKind.i64.wrap (256 * (y.1 : Int)) = 256 * (y.1 : Int) := i64_id (by omega) (by omega)
        have w6' : IntKind.i64.wrap (256 * (y.1 : Int) + (z.1 : Int)) = 256 * (y.1 : Int) + (z.1 : Int) := i64_id (by omega) (by omega)
        rw [decide_eq_false h6]
        simp only [cond_false, wb, w8, wd, hy, hz, w3, w3', w5', w6', w9]
        generalize decide ((y.1 : Int) = 0) = c
        cases c
        · exact ⟨_, rfl, fun _ => ⟨by show a < a + 3; omega, by show a + 3 ≤ _; omega, by show (0 : Int) ≤ 256 * (y.1 : Int) + (z.1 : Int); omega, by show 256 * (y.1 : Int) + (z.1 : Int) ≤ 65535; omega⟩⟩
        · exact ⟨_, rfl, fun h => by cases h⟩
    · rw [decide_eq_false h9]; exact ⟨_, rfl, fun h => by cases h⟩
theorem tlv10_total_loop (b : ByteArray) (hb : b.size ≤ 1099511627776) : ∀ (n : Nat) (k : Nat) (t5 : List Val) (a : Int), 0 ≤ a → a ≤ b.size → (b.size : Int) - a ≤ n → n < k → t5.length + n ≤ 2199023255552 → ∃ r, groatref10_Get_l0 k b t5 a = some r
  | n, 0, _, _, _, _, _, h, _ => by omega
  | n, k + 1, t5, a, h0, h1, h2, h3, h4 => by
    unfold groatref10_Get_l0 groatref10_Get_s1
    by_cases hlt : a < (b.size : Int)
    · obtain ⟨r1, e1, p1⟩ := tag_total b (by omega) a h0 hlt
      rw [decide_eq_true hlt, e1, Option.bind_some, cond_true]
      by_cases z1 : r1.2.2 = 0
      · obtain ⟨q1, q2⟩ := p1 z1
        obtain ⟨r2, e2, p2⟩ := ber_total b (by omega) r1.2.1 (by omega) q2
        simp only [z1, decide_true, Bool.not_true, cond_false]
        rw [e2, Option.bind_some]
        by_cases z2 : r2.2.2 = 0
        · obtain ⟨u1, u2, u3, u4⟩ := p2 z2
          simp only [z2, decide_true, Bool.not_true, cond_false]
          have w1 : IntKind.i64.wrap ((b.size : Int) - r2.2.1) = (b.size : Int) - r2.2.1 := i64_id (by omega) (by omega)
          have w2 : IntKind.i64.wrap (r2.2.1 + r2.1) = r2.2.1 + r2.1 := i64_id (by omega) (by omega)
          rw [w1, w2]
          by_cases z3 : (b.size : Int) - r2.2.1 < r2.1
          · rw [decide_eq_true z3]; exact ⟨_, rfl⟩
          · rw [decide_eq_false z3, cond_false, has10_eq t5 (by rw [maxLen_eq]; omega), Option.bind_some]
            generalize decide (r1.1 ∈ t5.map fun v => v.1) = c
            cases c with
            | true => exact ⟨_, rfl⟩
            | false =>
              rw [cond_false, decide_eq_true (by omega : 0 ≤ r2.2.1 + r2.1), decide_eq_true (by omega : r2.2.1 + r2.1 ≤ (((b.size : Nat) : Int))), decide_eq_true (by omega : 0 ≤ r2.2.1), decide_eq_true (by omega : r2.2.1 ≤ (((r2.2.1 + r2.1).toNat : Nat) : Int)), decide_eq_true (by simp; omega)]
              simp only [cond_true]
              obtain ⟨n, rfl⟩ : ∃ n', n = n' + 1 := ⟨n - 1, by omega⟩
              exact tlv10_total_loop b hb n k _ _ (by omega) (by omega) (by omega) (by omega) (by simp; omega)
        · simp only [z2, decide_false, Bool.not_false, cond_true]; exact ⟨_, rfl⟩
      · simp only [z1, decide_false, Bool.not_false, cond_true]; exact ⟨_, rfl⟩
    · rw [decide_eq_false hlt]; exact ⟨_, rfl⟩
theorem tlv10_total (b : ByteArray) (hb : b.size ≤ 1099511627776) : ∃ r, groatref10_Get b = some r := by
  unfold groatref10_Get groatref10_Get_s0
  dsimp only
  obtain ⟨r, hr⟩ := tlv10_total_loop b hb b.size FUEL [] 0 (by omega) (by omega) (by omega) (by rw [fuel_eq]; omega) (by simp; omega)
  rw [hr, Option.bind_some]
  cases r <;> exact ⟨_, rfl⟩
@[irreducible] def valC (s : Spec) (x : ByteArray) : Int := (groatref11_Value s x).getD 0
theorem Value11_eq (s : Spec) (x : ByteArray) (hx : x.size ≤ 1099511627776) : groatref11_Value s x = some (valC s x) := by
  have : ∃ v, groatref11_Value s x = some v := by
    unfold groatref11_Value groatref11_Value_s0
    rw [specCheck11_eq, Option.bind_some, First04_eq _ _ (by rw [maxLen_eq]; omega), Option.bind_some]
    obtain ⟨r, hr⟩ := tlv10_total x hx
    rw [hr, Option.bind_some]
    generalize (!decide (specC s = 0)) = c1
    generalize decide ((x.size : Int) < s.2.2.2.1) = c2
    generalize decide (s.2.2.2.2.1 < (x.size : Int)) = c3
    generalize decide ((0 : Int) ≤ firstC s.2.1 (bl x) 0) = c4
    generalize decide (s.2.1 = 6) = c5
    cases c1 <;> cases c2 <;> cases c3 <;> cases c4 <;> cases c5 <;> first | exact ⟨_, rfl⟩ | skip
    cases r with
    | inl r => simp only [cond_false, cond_true, Sum.elim_inl]; cases (!decide (r.2.1 = 0)) <;> exact ⟨_, rfl⟩
    | inr r => simp only [cond_false, cond_true, Sum.elim_inr]; cases (!decide (r.2.1 = 0)) <;> exact ⟨_, rfl⟩
  obtain ⟨v, hv⟩ := this
  unfold valC
  rw [hv]; rfl
theorem Value_eq' (s : Spec) (x : ByteArray) (hx : x.size ≤ 1099511627776) : spec_Value s x = some (valC s x) := by
  rw [Value_eq s x (by omega), Value11_eq s x hx]
@[irreducible] def widS (a b : Spec) : Bool := (groatref11_Wider a b).getD false
theorem Wider11_eq (a b : Spec) : groatref11_Wider a b = some (widS a b) := by
  have : ∃ v, groatref11_Wider a b = some v := by
    unfold groatref11_Wider groatref11_Wider_s0
    rw [specCheck11_eq, specCheck11_eq, Wider04_eq]
    simp only [Option.bind_some]
    generalize (!decide (specC a = 0)) = c1
    generalize (!decide (specC b = 0)) = c2
    generalize decide (b.2.2.2.1 < a.2.2.2.1) = c3
    generalize decide (a.2.2.2.2.1 < b.2.2.2.2.1) = c4
    generalize decide (a.2.1 = 5) = c5
    generalize decide (a.2.1 = 6) = c6
    generalize decide (b.2.1 = 6) = c7
    cases c1 <;> cases c2 <;> cases c3 <;> cases c4 <;> cases c5 <;> cases c6 <;> cases c7 <;> exact ⟨_, rfl⟩
  obtain ⟨v, hv⟩ := this
  unfold widS
  rw [hv]; rfl
theorem Wider_eq' (a b : Spec) : spec_Wider a b = some (widS a b) := by rw [specWider_eq, Wider11_eq]
end Groat
set_option linter.unusedVariables false
set_option linter.unusedSimpArgs false
namespace Groat
open Go Go.Ref
abbrev Rule := Int × Int × Int × ByteArray × List Pair × Unit
def getS (s : Schema) (no : Int) : Spec := (findS s.2.2.1 no).getD spec0
def hasS (s : Schema) (no : Int) : Bool := (findS s.2.2.1 no).isSome
theorem Find_eq2 (s : Schema) (no : Int) (hl : s.2.2.1.length ≤ maxLen) : schema_Find s no = some (getS s no, hasS s no) := by
  rw [Find_eq s no hl]
  unfold getS hasS
  cases findS s.2.2.1 no <;> rfl
theorem idx_cases (s : Schema) (no : Int) : (idxS s.2.2.1 no 0 = -1 ∧ hasS s no = false ∧ getS s no = spec0) ∨ (0 ≤ idxS s.2.2.1 no 0 ∧ idxS s.2.2.1 no 0 < s.2.2.1.length ∧ hasS s no = true ∧ s.2.2.1.getD (idxS s.2.2.1 no 0).toNat spec0 = getS s no) := by
  unfold hasS getS
  rcases idxS_range s.2.2.1 no 0 (Int.le_refl _) with ⟨h1, h2⟩ | ⟨h1, h2, x, h3, h4⟩
  · left; rw [h2]; exact ⟨h1, rfl, rfl⟩
  · right; rw [h3]; rw [Int.sub_zero] at h4; exact ⟨h1, by omega, rfl, h4⟩
def endsE (r : Rule) (a b : Schema) : Bool :=
  (bif decide (r.1 = 3) then !decide (r.2.1 = 0) else !hasS a r.2.1) || (bif decide (r.1 = 2) then !decide (r.2.2.1 = 0) else !hasS b r.2.2.1)
def textE (r : Rule) : Bool := (!decide (r.2.2.2.1 = bs []) && !decide (r.1 = 3)) || (decide (0 < (r.2.2.2.2.1.length : Int)) && !decide (r.1 = 5))
def padS (s : Spec) : Bool := decide (s.2.1 = 1) && decide (s.2.2.1 = 1)
def valsC : List Pair → Spec → Spec → Int
  | [], _, _ => 0
  | p :: r, x, y => bif !decide (valC x p.1 = 0) then valC x p.1 else bif !decide (valC y p.2.1 = 0) then valC y p.2.1 else valsC r x y
def tableR (l : List Pair) (x y : Spec) : Int := bif (!decide ((tableC l).1 = 0) || decide ((l.length : Int) = 0)) then 15 else valsC l x y
def kindC (r : Rule) (x y : Spec) : Int :=
  bif decide (r.1 = 1) then (bif widS y x then 0 else 6) else bif decide (r.1 = 3) then valC y r.2.2.2.1 else bif decide (r.1 = 4) then (bif padS x && padS y then 0 else 6) else bif decide (r.1 = 5) then tableR r.2.2.2.2.1 x y else 0
def ruleC (r : Rule) (a b : Schema) : Int :=
  bif decide (r.1 < 1) || decide (5 < r.1) then 1 else bif endsE r a b then 9 else bif textE r then 3 else kindC r (getS a r.2.1) (getS b r.2.2.1)
structure PairsOk (l : List Pair) : Prop where
  len : l.length ≤ 1000000
  sz : ∀ p ∈ l, p.1.size ≤ 1099511627776 ∧ p.2.1.size ≤ 1099511627776
structure RuleOk (r : Rule) : Prop where
  text : r.2.2.2.1.size ≤ 1099511627776
  pairs : PairsOk r.2.2.2.2.1
theorem ends_eq (r : Rule) (a b : Schema) (ha : a.2.2.1.length ≤ maxLen) (hb : b.2.2.1.length ≤ maxLen) : rule_ends r a b = some (getS a r.2.1, getS b r.2.2.1, bif endsE r a b then 9 else 0) := by
  unfold rule_ends rule_ends_s0 endsE
  rw [Find_eq2 a _ ha, Find_eq2 b _ hb]
  simp only [Option.bind_some]
  generalize decide (r.1 = 3) = k3
  generalize decide (r.1 = 2) = k2
  generalize decide (r.2.1 = 0) = z1
  generalize decide (r.2.2.1 = 0) = z2
  generalize hasS a r.2.1 = h1
  generalize hasS b r.2.2.1 = h2
  cases k3 <;> cases k2 <;> cases z1 <;> cases z2 <;> cases h1 <;> cases h2 <;> rfl
theorem padded_eq (s : Spec) : rule_padded s = some (padS s) := by
  unfold rule_padded rule_padded_s0 padS
  generalize decide (s.2.1 = 1) = c1
  generalize decide (s.2.2.1 = 1) = c2
  cases c1 <;> cases c2 <;> rfl
def vres (v : Int) : Sum Int Unit := if v = 0 then .inr () else .inl v
theorem table_run (x y : Spec) : ∀ (l : List Pair) (i : Int), (∀ p ∈ l, p.1.size ≤ 1099511627776 ∧ p.2.1.size ≤ 1099511627776) →
    runI (fun i (p : Pair) (s : Unit) K => ((spec_Value x p.1).bind fun r2 => (bif (!decide (r2 = 0)) then some (Sum.inl r2) else ((spec_Value y p.2.1).bind fun r3 => (bif (!decide (r3 = 0)) then some (Sum.inl r3) else K s))))) (fun _ => some (Sum.inr ())) l i () = some (vres (valsC l x y))
  | [], i, _ => rfl
  | p :: r, i, h => by
    obtain ⟨h1, h2⟩ := h p List.mem_cons_self
    simp only [runI, valsC]
    rw [Value_eq' x p.1 h1, Option.bind_some]
    by_cases z1 : valC x p.1 = 0
    · rw [decide_eq_true z1]
      simp only [Bool.not_true, cond_false]
      rw [Value_eq' y p.2.1 h2, Option.bind_some]
      by_cases z2 : valC y p.2.1 = 0
      · rw [decide_eq_true z2]
        simp only [Bool.not_true, cond_false]
        exact table_run x y r (i + 1) fun q hq => h q (List.mem_cons_of_mem _ hq)
      · rw [decide_eq_false z2]
        simp only [Bool.not_false, cond_true, vres, if_neg z2]
    · rw [decide_eq_false z1]
      simp only [Bool.not_false, cond_true, vres, if_neg z1]
theorem table_eq (l : List Pair) (x y : Spec) (h : PairsOk l) : rule_table l x y = some (tableR l x y) := by
  have hl := h.len
  unfold rule_table rule_table_s0 tableR
  dsimp only
  rw [codesCheck_eq l (by rw [maxLen_eq]; omega), Option.bind_some]
  cases (!decide ((tableC l).1 = 0)) with
  | true => rfl
  | false =>
    cases decide ((l.length : Int) = 0) with
    | true => rfl
    | false =>
      simp only [cond_false, Bool.or_false]
      have := loopI pair0 l (by rw [maxLen_eq]; omega) (fun i (p : Pair) (s : Unit) K => ((spec_Value x p.1).bind fun r2 => (bif (!decide (r2 = 0)) then some (Sum.inl r2) else ((spec_Value y p.2.1).bind fun r3 => (bif (!decide (r3 = 0)) then some (Sum.inl r3) else K s))))) (fun _ => some (Sum.inr ()))
        (fun k i s => rule_table_l0 k l (l.length : Int) i x y) (fun k i s => rfl) ()
      rw [this, table_run x y l 0 h.sz, Option.bind_some]
      unfold vres
      by_cases z : valsC l x y = 0
      · rw [if_pos z, z]; rfl
      · rw [if_neg z]; rfl
theorem ruleCheck_eq (r : Rule) (a b : Schema) (h : RuleOk r) (ha : a.2.2.1.length ≤ maxLen) (hb : b.2.2.1.length ≤ maxLen) : rule_Check r a b = some (ruleC r a b) := by
  unfold rule_Check rule_Check_s0 ruleC kindC textE
  rw [ends_eq r a b ha hb]
  simp only [Option.bind_some, Wider_eq', Value_eq' _ _ h.text, padded_eq, table_eq _ _ _ h.pairs]
  generalize endsE r a b = e
  generalize decide (r.1 < 1) = c1
  generalize decide ((5 : Int) < r.1) = c2
  generalize decide (r.2.2.2.1 = bs []) = t
  generalize decide ((0 : Int) < (r.2.2.2.2.1.length : Int)) = p
  generalize decide (r.1 = 1) = k1
  generalize decide (r.1 = 3) = k3
  generalize decide (r.1 = 4) = k4
  generalize decide (r.1 = 5) = k5
  generalize padS (getS a r.2.1) = p1
  generalize padS (getS b r.2.2.1) = p2
  generalize widS (getS b r.2.2.1) (getS a r.2.1) = w
  cases c1 <;> cases c2 <;> first | rfl | skip
  cases e <;> first | rfl | skip
  cases t <;> cases p <;> cases k3 <;> cases k5 <;> first | rfl | skip
  all_goals (cases k1 <;> cases k4 <;> cases p1 <;> cases p2 <;> cases w <;> rfl)
end Groat
set_option linter.unusedVariables false
set_option linter.unusedSimpArgs false
namespace Groat
open Go Go.Ref
def vres' (v : Int) : Sum Unit Int := if v = 0 then .inl () else .inr v
theorem vals20_run (x y : Spec) : ∀ (l : List Pair) (i : Int), (∀ p ∈ l, p.1.size ≤ 1099511627776 ∧ p.2.1.size ≤ 1099511627776) →
    runI (fun i (p : Pair) (s : Unit) K => ((groatref11_Value x p.1).bind fun r2 => (bif (!decide (r2 = 0)) then some (Sum.inr r2) else ((groatref11_Value y p.2.1).bind fun r3 => (bif (!decide (r3 = 0)) then some (Sum.inr r3) else K s))))) (fun _ => some (Sum.inl ())) l i () = some (vres' (valsC l x y))
  | [], i, _ => rfl
  | p :: r, i, h => by
    obtain ⟨h1, h2⟩ := h p List.mem_cons_self
    simp only [runI, valsC]
    rw [Value11_eq x p.1 h1, Option.bind_some]
    by_cases z1 : valC x p.1 = 0
    · rw [decide_eq_true z1]
      simp only [Bool.not_true, cond_false]
      rw [Value11_eq y p.2.1 h2, Option.bind_some]
      by_cases z2 : valC y p.2.1 = 0
      · rw [decide_eq_true z2]
        simp only [Bool.not_true, cond_false]
        exact vals20_run x y r (i + 1) fun q hq => h q (List.mem_cons_of_mem _ hq)
      · rw [decide_eq_false z2]
        simp only [Bool.not_false, cond_true, vres', if_neg z2]
    · rw [decide_eq_false z1]
      simp only [Bool.not_false, cond_true, vres', if_neg z1]
theorem check20_loop (r : Rule) (a b : Schema) (h : RuleOk r) (i k : Int) (hi0 : 0 ≤ i) (hi : i < a.2.2.1.length) (hk0 : 0 ≤ k) (hk : k < b.2.2.1.length) :
    groatref20_Check_l0 FUEL i k 0 r a b = some (vres' (valsC r.2.2.2.2.1 (a.2.2.1.getD i.toNat spec0) (b.2.2.1.getD k.toNat spec0))) := by
  have hl := h.pairs.len
  have := loopJ pair0 r.2.2.2.2.1 (by rw [maxLen_eq]; omega) (fun j (p : Pair) (s : Unit) K => ((groatref11_Value (a.2.2.1.getD i.toNat spec0) p.1).bind fun r2 => (bif (!decide (r2 = 0)) then some (Sum.inr r2) else ((groatref11_Value (b.2.2.1.getD k.toNat spec0) p.2.1).bind fun r3 => (bif (!decide (r3 = 0)) then some (Sum.inr r3) else K s))))) (fun _ => some (Sum.inl ()))
    (fun f j s => groatref20_Check_l0 f i k j r a b) (fun f j s h0 h1 => by
      show groatref20_Check_l0 (f + 1) i k j r a b = _
      conv => lhs; unfold groatref20_Check_l0 groatref20_Check_s13 groatref20_Check_s14 groatref20_Check_s17 groatref20_Check_s18
      have wi : ∀ {R : Type} (x : Option R), within i a.2.2.1.length x = x := fun x => within_int hi0 hi
      have wk : ∀ {R : Type} (x : Option R), within k b.2.2.1.length x = x := fun x => within_int hk0 hk
      have wj : ∀ {R : Type} (x : Option R), within j r.2.2.2.2.1.length x = x := fun x => within_int h0 h1
      rw [decide_eq_true h1]
      simp only [cond_true, wi, wk, wj]
      rfl) (fun f s => by
      show groatref20_Check_l0 (f + 1) i k r.2.2.2.2.1.length r a b = _
      conv => lhs; unfold groatref20_Check_l0 groatref20_Check_s13
      rw [decide_eq_false (by omega), cond_false]) ()
  rw [this]
  exact vals20_run _ _ _ 0 h.pairs.sz
theorem Check20_eq (r : Rule) (a b : Schema) (h : RuleOk r) (ha : a.2.2.1.length ≤ maxLen) (hb : b.2.2.1.length ≤ maxLen) : groatref20_Check r a b = some (ruleC r a b) := by
  unfold groatref20_Check groatref20_Check_s0
  have h0 : ∀ t, groatref20_Check_j0 t r a b = bif t then some 1 else groatref20_Check_j1 r a b := fun t => by cases t <;> rfl
  simp only [h0]
  unfold ruleC
  by_cases c1 : r.1 < 1
  · rw [decide_eq_true c1]; rfl
  by_cases c2 : (5 : Int) < r.1
  · rw [decide_eq_false c1, decide_eq_true c2]; rfl
  rw [decide_eq_false c1, decide_eq_false c2]
  simp only [cond_false, Bool.or_false]
  -- the ends
  have e2 : ∀ i k t, groatref20_Check_j2 i k t r a b = bif t then some 9 else groatref20_Check_j3 i k r a b := fun i k t => by cases t <;> rfl
  have e4 : ∀ i k t, groatref20_Check_j4 i k t r a b = bif t then some 9 else groatref20_Check_j5 i k r a b := fun i k t => by cases t <;> rfl
  have e6 : ∀ i k t, groatref20_Check_j6 i k t r a b = bif t then some 3 else groatref20_Check_j7 i k r a b := fun i k t => by cases t <;> rfl
  have e9 : ∀ t, groatref20_Check_j9 t = some (bif t then 6 else 0) := fun t => by cases t <;> rfl
  have hi := idx_cases a r.2.1
  have hk := idx_cases b r.2.2.1
  have ei : decide (idxS a.2.2.1 r.2.1 0 < 0) = !hasS a r.2.1 := by
    rcases hi with ⟨h1, h2, _⟩ | ⟨h1, _, h2, _⟩
    · rw [h1, h2]; rfl
    · rw [h2, decide_eq_false (by omega)]; rfl
  have ek : decide (idxS b.2.2.1 r.2.2.1 0 < 0) = !hasS b r.2.2.1 := by
    rcases hk with ⟨h1, h2, _⟩ | ⟨h1, _, h2, _⟩
    · rw [h1, h2]; rfl
    · rw [h2, decide_eq_false (by omega)]; rfl
  unfold groatref20_Check_j1 groatref20_Check_s2
  rw [Find13_eq a _ ha, Option.bind_some, Find13_eq b _ hb, Option.bind_some]
  generalize hii : idxS a.2.2.1 r.2.1 0 = i at *
  generalize hkk : idxS b.2.2.1 r.2.2.1 0 = k at *
  have s3 : groatref20_Check_j3 i k r a b = bif (bif decide (r.1 = 2) then !decide (r.2.2.1 = 0) else !hasS b r.2.2.1) then some 9 else groatref20_Check_j5 i k r a b := by
    unfold groatref20_Check_j3 groatref20_Check_s4
    simp only [e4, ek]
    generalize decide (r.1 = 2) = k2
    generalize decide (r.2.2.1 = 0) = z
    generalize hasS b r.2.2.1 = hh
    cases k2 <;> cases z <;> cases hh <;> rfl
  have s1 : (bif decide (r.1 = 3) then bif !decide (r.2.1 = 0) then groatref20_Check_j2 i k true r a b else bif !decide (r.1 = 3) then groatref20_Check_j2 i k (decide (i < 0)) r a b else groatref20_Check_j2 i k false r a b
      else bif !decide (r.1 = 3) then groatref20_Check_j2 i k (decide (i < 0)) r a b else groatref20_Check_j2 i k false r a b) = bif endsE r a b then some 9 else groatref20_Check_j5 i k r a b := by
    simp only [e2, s3, ei]
    unfold endsE
    generalize decide (r.1 = 3) = k3
    generalize decide (r.2.1 = 0) = z
    generalize hasS a r.2.1 = hh
    generalize (bif decide (r.1 = 2) then !decide (r.2.2.1 = 0) else !hasS b r.2.2.1) = w
    cases k3 <;> cases z <;> cases hh <;> cases w <;> rfl
  have s5 : groatref20_Check_j5 i k r a b = bif textE r then some 3 else groatref20_Check_j7 i k r a b := by
    unfold groatref20_Check_j5 groatref20_Check_s6 textE
    simp only [e6]
    generalize decide (r.2.2.2.1 = bs []) = t
    generalize decide ((0 : Int) < (r.2.2.2.2.1.length : Int)) = p
    generalize decide (r.1 = 3) = k3
    generalize decide (r.1 = 5) = k5
    cases t <;> cases p <;> cases k3 <;> cases k5 <;> rfl
  refine Eq.trans s1 ?_
  cases hE : endsE r a b with
  | true => rfl
  | false =>
    rw [cond_false, cond_false, s5]
    cases textE r with
    | true => rfl
    | false =>
      rw [cond_false, cond_false]
      unfold groatref20_Check_j7 groatref20_Check_s8 kindC
      -- which ends are there
      have g1 : r.1 = 1 ∨ r.1 = 4 ∨ r.1 = 5 → hasS a r.2.1 = true := fun hr => by
        unfold endsE at hE
        rw [decide_eq_false (by omega : ¬ r.1 = 3)] at hE
        cases hh : hasS a r.2.1 with
        | true => rfl
        | false => rw [hh] at hE; simp at hE
      have g2 : r.1 ≠ 2 → hasS b r.2.2.1 = true := fun hr => by
        unfold endsE at hE
        rw [decide_eq_false hr] at hE
        cases hh : hasS b r.2.2.1 with
        | true => rfl
        | false => rw [hh] at hE; simp at hE
      have hA : hasS a r.2.1 = true → 0 ≤ i ∧ i < a.2.2.1.length ∧ a.2.2.1.getD i.toNat spec0 = getS a r.2.1 := fun hh => by
        rcases hi with ⟨_, h2, _⟩ | ⟨h1, h2, _, h3⟩
        · rw [h2] at hh; cases hh
        · exact ⟨h1, h2, h3⟩
      have hB : hasS b r.2.2.1 = true → 0 ≤ k ∧ k < b.2.2.1.length ∧ b.2.2.1.getD k.toNat spec0 = getS b r.2.2.1 := fun hh => by
        rcases hk with ⟨_, h2, _⟩ | ⟨h1, h2, _, h3⟩
        · rw [h2] at hh; cases hh
        · exact ⟨h1, h2, h3⟩
      by_cases k1 : r.1 = 1
      · obtain ⟨a1, a2, a3⟩ := hA (g1 (.inl k1))
        obtain ⟨b1, b2, b3⟩ := hB (g2 (by omega))
        rw [decide_eq_true k1, cond_true, cond_true, within_int b1 b2, within_int a1 a2, a3, b3, Wider11_eq, Option.bind_some]
        cases widS (getS b r.2.2.1) (getS a r.2.1) <;> rfl
      rw [decide_eq_false k1, cond_false, cond_false]
      by_cases k3 : r.1 = 3
      · obtain ⟨b1, b2, b3⟩ := hB (g2 (by omega))
        rw [decide_eq_true k3, cond_true, cond_true, within_int b1 b2, b3, Value11_eq _ _ h.text]; rfl
      rw [decide_eq_false k3, cond_false, cond_false]
      by_cases k4 : r.1 = 4
      · obtain ⟨a1, a2, a3⟩ := hA (g1 (.inr (.inl k4)))
        obtain ⟨b1, b2, b3⟩ := hB (g2 (by omega))
        rw [decide_eq_true k4, cond_true, cond_true, within_int a1 a2, within_int b1 b2]
        simp only [a3, b3, e9]
        unfold padS
        generalize decide ((getS a r.2.1).2.1 = 1) = d1
        generalize decide ((getS a r.2.1).2.2.1 = 1) = d2
        generalize decide ((getS b r.2.2.1).2.1 = 1) = d3
        generalize decide ((getS b r.2.2.1).2.2.1 = 1) = d4
        cases d1 <;> cases d2 <;> cases d3 <;> cases d4 <;> rfl
      rw [decide_eq_false k4, cond_false, cond_false]
      by_cases k5 : r.1 = 5
      · obtain ⟨a1, a2, a3⟩ := hA (g1 (.inr (.inr k5)))
        obtain ⟨b1, b2, b3⟩ := hB (g2 (by omega))
        have e10 : ∀ t, groatref20_Check_j10 i k t r a b = bif t then some 15 else groatref20_Check_j11 i k r a b := fun t => by cases t <;> rfl
        have e11 : groatref20_Check_j11 i k r a b = some (valsC r.2.2.2.2.1 (getS a r.2.1) (getS b r.2.2.1)) := by
          unfold groatref20_Check_j11 groatref20_Check_s12
          dsimp only
          rw [check20_loop r a b h i k a1 a2 b1 b2, Option.bind_some, a3, b3]
          unfold vres'
          by_cases z : valsC r.2.2.2.2.1 (getS a r.2.1) (getS b r.2.2.1) = 0
          · rw [if_pos z, z]; rfl
          · rw [if_neg z]; rfl
        have hl := h.pairs.len
        rw [decide_eq_true k5, cond_true, cond_true, Check19_eq _ (by rw [maxLen_eq]; omega), Option.bind_some]
        simp only [e10, e11]
        unfold tableR
        generalize (!decide ((tableC r.2.2.2.2.1).1 = 0)) = d1
        generalize decide ((r.2.2.2.2.1.length : Int) = 0) = d2
        cases d1 <;> cases d2 <;> rfl
      · rw [decide_eq_false k5]; rfl
end Groat
set_option linter.unusedVariables false
set_option linter.unusedSimpArgs false
namespace Groat
open Go Go.Ref
def rightM (m : ByteArray) : Bool := decide ((m.size : Int) = 4) && allD (bl m)
theorem rightM_iff {m : ByteArray} : rightM m = true ↔ m.size = 4 ∧ allD (bl m) = true := by
  unfold rightM
  rw [Bool.and_eq_true, decide_eq_true_eq]
  constructor <;> intro h <;> exact ⟨by omega, h.2⟩
theorem mtiRight_eq (m : ByteArray) (h : m.size ≤ maxLen) : mti_Right m = some (rightM m) := by
  unfold mti_Right mti_Right_s0 rightM
  cases decide ((m.size : Int) = 4) with
  | false => rfl
  | true => rw [cond_true, All_eq m h]; rfl
theorem Right15_eq (m : ByteArray) (h : m.size ≤ maxLen) : groatref15_Right m = some (rightM m) := by
  unfold groatref15_Right groatref15_Right_s0 rightM
  cases decide ((m.size : Int) = 4) with
  | false => rfl
  | true => rw [cond_true, All01_eq m h]; rfl
theorem dig_at {m : ByteArray} (h : rightM m = true) (i : Nat) (hi : i < 4) : 48 ≤ byteAt m i ∧ byteAt m i ≤ 57 := by
  obtain ⟨h1, h2⟩ := rightM_iff.1 h
  have hl : i < (bl m).length := by rw [bl_length]; omega
  have := List.all_eq_true.1 h2 _ (List.getElem_mem hl)
  rw [bl_byteAt, List.getD_eq_getElem?_getD, List.getElem?_eq_getElem hl]
  exact of_decide_eq_true this
def verM (m : ByteArray) : Int := bif rightM m then byteAt m 0 - 48 else 0
def reqM (m : ByteArray) : Bool := rightM m && (decide (byteAt m 2 = 48) || decide (byteAt m 2 = 50))
theorem Version_eq (m : ByteArray) (h : m.size ≤ maxLen) : mti_Version m = some (verM m, rightM m) := by
  unfold mti_Version mti_Version_s0 verM
  rw [mtiRight_eq m h, Option.bind_some]
  cases hr : rightM m with
  | false => rfl
  | true =>
    obtain ⟨h1, _⟩ := rightM_iff.1 hr
    have := dig_at hr 0 (by omega)
    simp only [Bool.not_true, cond_false, cond_true]
    rw [within_int (by omega) (by omega), show (0 : Int).toNat = 0 from rfl, u8_id (by omega) (by omega), i64_id (by omega) (by omega)]
theorem Request_eq (m : ByteArray) (h : m.size ≤ maxLen) : mti_Request m = some (reqM m) := by
  unfold mti_Request mti_Request_s0 reqM
  rw [mtiRight_eq m h, Option.bind_some]
  cases hr : rightM m with
  | false => rfl
  | true =>
    obtain ⟨h1, _⟩ := rightM_iff.1 hr
    rw [cond_true, within_int (by omega) (by omega), within_int (by omega) (by omega), show (2 : Int).toNat = 2 from rfl]
    cases decide (byteAt m 2 = 48) <;> rfl
theorem Request15_eq (m : ByteArray) (h : m.size ≤ maxLen) : groatref15_Request m = some (reqM m) := by
  unfold groatref15_Request groatref15_Request_s0 reqM
  rw [Get01_eq m h, Option.bind_some]
  unfold getD'
  by_cases h4 : m.size = 4
  · cases hd : allD (bl m) with
    | false =>
      rw [if_neg (by simp)]
      have : rightM m = false := by unfold rightM; rw [hd, Bool.and_false]
      rw [this]; rfl
    | true =>
      have hr : rightM m = true := rightM_iff.2 ⟨h4, hd⟩
      rw [if_pos ⟨by rw [bl_length]; omega, by rw [bl_length]; omega, rfl⟩, hr]
      dsimp only
      rw [cond_true, decide_eq_true (by omega), cond_true, Bool.true_and]
      have hl : (bl m).length = 4 := by rw [bl_length, h4]
      obtain ⟨d0, d1, d2, d3, hb⟩ : ∃ d0 d1 d2 d3, bl m = [d0, d1, d2, d3] := by
        match hm : bl m, hl with
        | [d0, d1, d2, d3], _ => exact ⟨d0, d1, d2, d3, rfl⟩
      have h0 := dig_at hr 0 (by omega)
      have h1 := dig_at hr 1 (by omega)
      have h2 := dig_at hr 2 (by omega)
      have h3 := dig_at hr 3 (by omega)
      rw [bl_byteAt, hb] at h0 h1 h2 h3
      rw [bl_byteAt, hb]
      simp only [List.getD_cons_zero, List.getD_cons_succ] at h0 h1 h2 h3 ⊢
      have hv : valD [d0, d1, d2, d3] 0 = 1000 * (d0 - 48) + 100 * (d1 - 48) + 10 * (d2 - 48) + (d3 - 48) := by
        simp only [valD, List.foldl_cons, List.foldl_nil]; omega
      have hq : Int.tmod (IntKind.i64.wrap (Int.tdiv (valD [d0, d1, d2, d3] 0) 10)) 10 = d2 - 48 := by
        rw [hv, Int.tdiv_eq_ediv_of_nonneg (by omega), i64_id (by omega) (by omega), Int.tmod_eq_emod_of_nonneg (by omega)]
        omega
      rw [hq]
      by_cases e1 : d2 = 48
      · rw [decide_eq_true e1, decide_eq_true (by omega : d2 - 48 = 0)]; rfl
      · rw [decide_eq_false e1, decide_eq_false (by omega : ¬ d2 - 48 = 0), cond_false, Bool.false_or]
        congr 1
        exact decide_eq_decide.2 (by omega)
  · have : rightM m = false := by
      unfold rightM
      rw [decide_eq_false (by omega), Bool.false_and]
    rw [this]
    cases (if 1 ≤ (bl m).length ∧ (bl m).length ≤ 18 ∧ allD (bl m) = true then (valD (bl m) 0, true) else ((0 : Int), false)).2 with
    | false => rfl
    | true => rw [cond_true, decide_eq_false (by omega)]; rfl
def versM (m : ByteArray) (v : Int) : Bool := rightM m && decide (byteAt m 0 - 48 = v)
theorem version21_eq (m : ByteArray) (v : Int) (h : m.size ≤ maxLen) : groatref21_version m v = some (versM m v) := by
  unfold groatref21_version groatref21_version_s0 versM
  rw [Right15_eq m h, Option.bind_some]
  cases hr : rightM m with
  | false => rfl
  | true =>
    obtain ⟨h1, _⟩ := rightM_iff.1 hr
    have := dig_at hr 0 (by omega)
    have w1 : IntKind.i64.wrap (byteAt m 0) = byteAt m 0 := i64_id (by omega) (by omega)
    rw [cond_true, within_int (by omega) (by omega), show (0 : Int).toNat = 0 from rfl, w1, i64_id (by omega) (by omega)]
    rfl
def typedP (p : Pair) (a b : Schema) : Bool := versM p.1 a.2.1 && (versM p.2.1 b.2.1 && (reqM p.1 == reqM p.2.1))
theorem typed_eq (p : Pair) (a b : Schema) (h1 : p.1.size ≤ maxLen) (h2 : p.2.1.size ≤ maxLen) : xlate_typed p a b = some (typedP p a b) := by
  unfold xlate_typed xlate_typed_s0 typedP versM
  rw [Version_eq _ h1, Version_eq _ h2, Request_eq _ h1, Request_eq _ h2]
  simp only [Option.bind_some]
  unfold verM
  cases rightM p.1 with
  | false => rfl
  | true =>
    cases rightM p.2.1 with
    | false => simp
    | true =>
      simp only [cond_true, Bool.true_and]
      cases decide (byteAt p.1 0 - 48 = a.2.1) with
      | false => rfl
      | true =>
        cases decide (byteAt p.2.1 0 - 48 = b.2.1) with
        | false => rfl
        | true => rfl
end Groat
set_option linter.unusedVariables false
set_option linter.unusedSimpArgs false
namespace Groat
open Go Go.Ref
abbrev Map := List Pair × List Rule × Unit
structure MapOk (m : Map) : Prop where
  mtis : PairsOk m.1
  len : m.2.1.length ≤ 1000000
  rules : ∀ r ∈ m.2.1, RuleOk r
def mtisC (a b : Schema) : List ByteArray → List Pair → Int → Option (Int × Int)
  | _, [], _ => none
  | seen, p :: r, i => if typedP p a b = true then (if p.1 ∈ seen then some (10, i) else mtisC a b (seen ++ [p.1]) r (i + 1)) else some (7, i)
abbrev Xr := Sum (Int × Int × Int × Map × Schema × Schema) (Map × Schema × Schema)
def mtisR (m : Map) (a b : Schema) (o : Option (Int × Int)) : Option Xr := some (match o with
  | some e => .inl (e.1, 2, e.2, m, a, b)
  | none => .inr (m, a, b))
theorem mtis_run (m : Map) (a b : Schema) : ∀ (l : List Pair) (i : Int) (seen : List ByteArray), (∀ p ∈ l, p.1.size ≤ 1099511627776 ∧ p.2.1.size ≤ 1099511627776) →
    runI (fun i (x : Pair) (s : List (ByteArray × Bool)) K => ((xlate_typed x a b).bind fun r2 => (bif (!r2) then some (Sum.inl ((7 : Int), (2 : Int), i, m, a, b)) else (bif mget (eqK .str) false s x.1 then some (Sum.inl ((10 : Int), (2 : Int), i, m, a, b)) else (bif mhas (eqK .str) s x.1 then none else K (s ++ [(x.1, true)])))))) (fun _ => some (Sum.inr (m, a, b))) l i (seenM seen) = mtisR m a b (mtisC a b seen l i)
  | [], i, seen, _ => rfl
  | p :: r, i, seen, h => by
    obtain ⟨h1, h2⟩ := h p List.mem_cons_self
    simp only [runI, mtisC]
    rw [typed_eq p a b (by rw [maxLen_eq]; omega) (by rw [maxLen_eq]; omega), Option.bind_some]
    cases typedP p a b with
    | false => rw [if_neg (by simp)]; rfl
    | true =>
      rw [if_pos rfl]
      simp only [Bool.not_true, cond_false]
      have e1 := mget_seen (eqK .str) (fun _ _ => rfl) p.1 seen
      have e2 := mhas_seen (eqK .str) (fun _ _ => rfl) p.1 seen
      by_cases hm : p.1 ∈ seen
      · rw [e1.2 hm, if_pos hm]; rfl
      · rw [not_true' e1 hm, not_true' e2 hm, if_neg hm, cond_false, cond_false, seenM_append]
        exact mtis_run m a b r (i + 1) (seen ++ [p.1]) fun q hq => h q (List.mem_cons_of_mem _ hq)
theorem mtis_loop (m : Map) (a b : Schema) (h : PairsOk m.1) : xlate_Check_l1 FUEL m.1 (m.1.length : Int) 0 m a b [] = mtisR m a b (mtisC a b [] m.1 0) := by
  have hl := h.len
  have := loopI pair0 m.1 (by rw [maxLen_eq]; omega) (fun i (x : Pair) (s : List (ByteArray × Bool)) K => ((xlate_typed x a b).bind fun r2 => (bif (!r2) then some (Sum.inl ((7 : Int), (2 : Int), i, m, a, b)) else (bif mget (eqK .str) false s x.1 then some (Sum.inl ((10 : Int), (2 : Int), i, m, a, b)) else (bif mhas (eqK .str) s x.1 then none else K (s ++ [(x.1, true)])))))) (fun _ => some (Sum.inr (m, a, b)))
    (fun k i s => xlate_Check_l1 k m.1 (m.1.length : Int) i m a b s) (fun k i s => rfl) []
  rw [this]
  exact mtis_run m a b m.1 0 [] h.sz
theorem applyP_in (f : ByteArray) (l : List Pair) : (applyP l f).2 = true ↔ f ∈ l.map fun p => p.1 := by
  unfold applyP
  induction l with
  | nil => simp
  | cons p r ih =>
    rw [List.find?_cons, List.map_cons, List.mem_cons]
    by_cases h : p.1 = f
    · rw [decide_eq_true h]; exact ⟨fun _ => .inl h.symm, fun _ => rfl⟩
    · rw [decide_eq_false h]
      exact ih.trans ⟨.inr, fun h' => h'.resolve_left fun e => h e.symm⟩
theorem mtis21_loop (m : Map) (a b : Schema) (h : PairsOk m.1) : ∀ (n j k : Nat), j + n = m.1.length → n < k → groatref21_Check_l0 k (j : Int) m a b = mtisR m a b (mtisC a b ((m.1.take j).map fun p => p.1) (m.1.drop j) j)
  | n, j, 0, _, hk => by omega
  | 0, j, k + 1, hj, hk => by
    unfold groatref21_Check_l0 groatref21_Check_s1
    rw [decide_eq_false (by omega), show m.1.drop j = [] from List.drop_eq_nil_of_le (by omega)]; rfl
  | n + 1, j, k + 1, hj, hk => by
    have hl := h.len
    have hlt : j < m.1.length := by omega
    obtain ⟨h1, h2⟩ := h.sz _ (List.getElem_mem hlt)
    have hg : ∀ d, m.1.getD j d = m.1[j] := fun d => by rw [List.getD_eq_getElem?_getD, List.getElem?_eq_getElem hlt]; rfl
    unfold groatref21_Check_l0 groatref21_Check_s1
    rw [decide_eq_true (by omega), cond_true, within_nat_lt hlt, Int.toNat_natCast, hg, version21_eq _ _ (by rw [maxLen_eq]; omega), Option.bind_some, List.drop_eq_getElem_cons hlt]
    simp only [mtisC]
    cases v1 : versM m.1[j].1 a.2.1 with
    | false =>
      have : typedP m.1[j] a b = false := by unfold typedP; rw [v1]; rfl
      rw [this, if_neg (by simp)]; rfl
    | true =>
      simp only [Bool.not_true, cond_false]
      rw [version21_eq _ _ (by rw [maxLen_eq]; omega), Option.bind_some]
      cases v2 : versM m.1[j].2.1 b.2.1 with
      | false =>
        have : typedP m.1[j] a b = false := by unfold typedP; rw [v1, v2]; rfl
        rw [this, if_neg (by simp)]; rfl
      | true =>
        simp only [Bool.not_true, cond_false]
        rw [Request15_eq _ (by rw [maxLen_eq]; omega), Option.bind_some, Request15_eq _ (by rw [maxLen_eq]; omega), Option.bind_some]
        cases v3 : (reqM m.1[j].1 == reqM m.1[j].2.1) with
        | false =>
          have : typedP m.1[j] a b = false := by unfold typedP; rw [v1, v2, v3]; rfl
          rw [this, if_neg (by simp)]; rfl
        | true =>
          have : typedP m.1[j] a b = true := by unfold typedP; rw [v1, v2, v3]; rfl
          rw [this, if_pos rfl]
          simp only [Bool.not_true, cond_false]
          rw [decide_eq_true (by omega : (0 : Int) ≤ (j : Int)), decide_eq_true (by omega : (j : Int) ≤ ((m.1.length : Nat) : Int)), cond_true, cond_true, List.drop_zero, Apply19_eq _ _ (by rw [List.length_take, maxLen_eq]; omega), Option.bind_some]
          have hm := applyP_in m.1[j].1 (m.1.take j)
          by_cases hin : m.1[j].1 ∈ (m.1.take j).map fun p => p.1
          · rw [hm.2 hin, if_pos hin]; rfl
          · rw [not_true' hm hin, if_neg hin, cond_false, i64_succ (by omega), mtis21_loop m a b h n (j + 1) k (by omega) (by omega)]
            congr 2
            rw [List.take_add_one, List.getElem?_eq_getElem hlt, List.map_append]
            rfl
def twiceR (x y : Rule) : Bool := (!decide (x.2.1 = 0) && decide (x.2.1 = y.2.1)) || (!decide (x.2.2.1 = 0) && decide (x.2.2.1 = y.2.2.1))
theorem twice_eq (x y : Rule) : groatref21_twice x y = some (twiceR x y) := by
  unfold groatref21_twice groatref21_twice_s0 twiceR
  generalize decide (x.2.1 = 0) = c1
  generalize decide (x.2.1 = y.2.1) = c2
  generalize decide (x.2.2.1 = 0) = c3
  generalize decide (x.2.2.1 = y.2.2.1) = c4
  cases c1 <;> cases c2 <;> cases c3 <;> cases c4 <;> rfl
def rulesC (a b : Schema) : List Rule → List Rule → Int → Option (Int × Int)
  | _, [], _ => none
  | prev, r :: l, i => if ruleC r a b = 0 then (if prev.any (fun q => twiceR q r) = true then some (10, i) else rulesC a b (prev ++ [r]) l (i + 1)) else some (ruleC r a b, i)
def rulesR (o : Option (Int × Int)) : Option (Sum (Int × Int × Int) Unit) := some (match o with
  | some e => .inl (e.1, 3, e.2)
  | none => .inr ())
def twiceX (m : Map) (a b : Schema) (i : Int) (t : Bool) : Sum (Int × Int × Int × Int × Map × Schema × Schema) (Int × Map × Schema × Schema) := bif t then .inl (10, 3, i, i, m, a, b) else .inr (i, m, a, b)
theorem rule_at {m : Map} {j : Nat} (hlt : j < m.2.1.length) (d : Rule) : m.2.1.getD j d = m.2.1[j] := by
  rw [List.getD_eq_getElem?_getD, List.getElem?_eq_getElem hlt]; rfl
theorem twice_loop (m : Map) (a b : Schema) (i : Nat) (hi : i < m.2.1.length) (hl : m.2.1.length ≤ 1000000) : ∀ (n j k : Nat), j + n = i → n < k → groatref21_Check_l2 k (i : Int) (j : Int) m a b = some (twiceX m a b i (((m.2.1.take i).drop j).any fun q => twiceR q m.2.1[i]))
  | n, j, 0, _, hk => by omega
  | 0, j, k + 1, hj, hk => by
    have : j = i := by omega
    subst this
    unfold groatref21_Check_l2 groatref21_Check_s7
    rw [decide_eq_false (by omega), List.drop_eq_nil_of_le (by rw [List.length_take]; omega)]; rfl
  | n + 1, j, k + 1, hj, hk => by
    have hlt : j < m.2.1.length := by omega
    unfold groatref21_Check_l2 groatref21_Check_s7
    have hd : (m.2.1.take i).drop j = m.2.1[j] :: (m.2.1.take i).drop (j + 1) := by
      rw [List.drop_eq_getElem_cons (by rw [List.length_take]; omega)]
      congr 1
      rw [List.getElem_take]
    rw [decide_eq_true (by omega), cond_true, within_nat_lt hlt, within_nat_lt hi, Int.toNat_natCast, Int.toNat_natCast, rule_at hlt, rule_at hi, twice_eq, Option.bind_some, hd, List.any_cons]
    cases twiceR m.2.1[j] m.2.1[i] with
    | true => rfl
    | false =>
      rw [cond_false, i64_succ (by omega)]
      dsimp only
      rw [twice_loop m a b i hi hl n (j + 1) k (by omega) (by omega), Bool.false_or]
theorem rules21_loop (m : Map) (a b : Schema) (h : MapOk m) (ha : a.2.2.1.length ≤ maxLen) (hb : b.2.2.1.length ≤ maxLen) : ∀ (n j k : Nat), j + n = m.2.1.length → n < k → groatref21_Check_l1 k (j : Int) m a b = rulesR (rulesC a b (m.2.1.take j) (m.2.1.drop j) j)
  | n, j, 0, _, hk => by omega
  | 0, j, k + 1, hj, hk => by
    unfold groatref21_Check_l1 groatref21_Check_s4
    rw [decide_eq_false (by omega), List.drop_eq_nil_of_le (by omega)]; rfl
  | n + 1, j, k + 1, hj, hk => by
    have hl := h.len
    have hlt : j < m.2.1.length := by omega
    unfold groatref21_Check_l1 groatref21_Check_s4
    rw [decide_eq_true (by omega), cond_true, within_nat_lt hlt, Int.toNat_natCast, rule_at hlt, Check20_eq _ a b (h.rules _ (List.getElem_mem hlt)) ha hb, Option.bind_some, List.drop_eq_getElem_cons hlt]
    simp only [rulesC]
    by_cases z : ruleC m.2.1[j] a b = 0
    · rw [decide_eq_true z, if_pos z]
      simp only [Bool.not_true, cond_false]
      have ht := twice_loop m a b j hlt hl j 0 FUEL (by omega) (by rw [fuel_eq]; omega)
      rw [show ((0 : Nat) : Int) = (0 : Int) from rfl, List.drop_zero] at ht
      rw [ht, Option.bind_some]
      cases (m.2.1.take j).any fun q => twiceR q m.2.1[j] with
      | true => rw [if_pos rfl]; rfl
      | false =>
        rw [if_neg (by simp)]
        unfold twiceX groatref21_Check_s9
        simp only [cond_false, Sum.elim_inr]
        rw [i64_succ (by omega), rules21_loop m a b h ha hb n (j + 1) k (by omega) (by omega)]
        congr 2
        rw [List.take_add_one, List.getElem?_eq_getElem hlt]
        rfl
    · rw [decide_eq_false z, if_neg z]; rfl
def mapC (m : Map) (a b : Schema) : Int × Int × Int :=
  if (schemaC a).1 = 0 then (if (schemaC b).1 = 0 then (if 256 < m.1.length then (5, 2, 256) else match mtisC a b [] m.1 0 with
    | some e => (e.1, 2, e.2)
    | none => if 256 < m.2.1.length then (5, 3, 256) else match rulesC a b [] m.2.1 0 with
      | some e => (e.1, 3, e.2)
      | none => (0, 0, 0)) else (1, 1, 1)) else (1, 1, 0)
theorem Check21_eq (m : Map) (a b : Schema) (h : MapOk m) (ha : a.2.2.1.length ≤ maxLen) (hb : b.2.2.1.length ≤ maxLen) : groatref21_Check m a b = some (mapC m a b) := by
  have h1 := h.mtis.len
  have h2 := h.len
  unfold groatref21_Check groatref21_Check_s0 mapC
  rw [Right13_eq a ha, Option.bind_some]
  by_cases za : (schemaC a).1 = 0
  · rw [decide_eq_true za, if_pos za]
    simp only [Bool.not_true, cond_false]
    rw [Right13_eq b hb, Option.bind_some]
    by_cases zb : (schemaC b).1 = 0
    · rw [decide_eq_true zb, if_pos zb]
      simp only [Bool.not_true, cond_false]
      by_cases hm : 256 < m.1.length
      · rw [decide_eq_true (by omega), if_pos hm]; rfl
      · rw [decide_eq_false (by omega), if_neg hm, cond_false]
        have e1 := mtis21_loop m a b h.mtis m.1.length 0 FUEL (by omega) (by rw [fuel_eq]; omega)
        rw [show ((0 : Nat) : Int) = (0 : Int) from rfl, List.take_zero, List.drop_zero, List.map_nil] at e1
        rw [e1]
        unfold mtisR
        cases mtisC a b [] m.1 0 with
        | some e => rfl
        | none =>
          simp only [Option.bind_some, Sum.elim_inr]
          unfold groatref21_Check_s3
          by_cases hr : 256 < m.2.1.length
          · rw [decide_eq_true (by omega), if_pos hr]; rfl
          · rw [decide_eq_false (by omega), if_neg hr, cond_false]
            have e2 := rules21_loop m a b h ha hb m.2.1.length 0 FUEL (by omega) (by rw [fuel_eq]; omega)
            rw [show ((0 : Nat) : Int) = (0 : Int) from rfl, List.take_zero, List.drop_zero] at e2
            dsimp only
            rw [e2]
            unfold rulesR
            cases rulesC a b [] m.2.1 0 <;> rfl
    · rw [decide_eq_false zb, if_neg zb]; rfl
  · rw [decide_eq_false za, if_neg za]; rfl
end Groat
set_option linter.unusedVariables false
set_option linter.unusedSimpArgs false
namespace Groat
open Go Go.Ref
theorem setH_snoc (l : List Int) (f : Int) : setH (l ++ [f]) = setH l ||| setH [f] := by simp [setH, List.foldl_append]
theorem setL_snoc (l : List Int) (f : Int) : setL (l ++ [f]) = setL l ||| setL [f] := by simp [setL, List.foldl_append]
theorem both_zero (fs : List Int) (f : Int) : (setH fs &&& setH [f] = 0 ∧ setL fs &&& setL [f] = 0) ↔ ¬ (f ∈ fs ∧ inR f = true) := by
  constructor
  · rintro ⟨h1, h2⟩ ⟨h3, h4⟩
    have := has_and (setH fs) (setL fs) (setH [f]) (setL [f]) f
    rw [h1, h2, hasN_zero, set_has, set_has, h4] at this
    simp [h3] at this
  · intro h
    refine set_ext (and_lt (setH_lt fs)) (and_lt (setL_lt fs)) (by decide) (by decide) fun n _ _ => ?_
    rw [hasN_zero, has_and, set_has, set_has]
    by_cases e : n = f
    · subst e
      cases hr : inR n with
      | false => simp
      | true =>
        have : n ∉ fs := fun hm => h ⟨hm, hr⟩
        simp [this]
    · simp [e]
theorem zero_dec (x y : Nat) : (decide (((x : Nat) : Int) = 0) && (decide (((y : Nat) : Int) = 0) && true)) = decide (x = 0 ∧ y = 0) := by
  rw [Bool.and_true, ← Bool.decide_and]
  exact decide_eq_decide.2 (by omega)
theorem has_range' {s : Schema} (h : Okay s) {no : Int} (hh : hasS s no = true) : inR no = true := by
  unfold hasS findS at hh
  obtain ⟨x, hx⟩ := Option.isSome_iff_exists.1 hh
  have h1 := List.find?_some hx
  have h2 := List.mem_of_find?_eq_some hx
  have h3 := specC_no (h.2.2.2.1 x h2)
  have h4 : x.1 = no := of_decide_eq_true h1
  unfold inR
  exact decide_eq_true (by omega)
theorem rule_ends0 {r : Rule} {a b : Schema} (h : ruleC r a b = 0) : endsE r a b = false := by
  unfold ruleC at h
  cases hc : (decide (r.1 < 1) || decide ((5 : Int) < r.1)) with
  | true => rw [hc] at h; simp at h
  | false =>
    rw [hc] at h
    cases he : endsE r a b with
    | false => rfl
    | true => rw [he] at h; simp at h
theorem rule_inR {r : Rule} {a b : Schema} (ha : Okay a) (hb : Okay b) (h : ruleC r a b = 0) : (r.2.1 ≠ 0 → inR r.2.1 = true) ∧ (r.2.2.1 ≠ 0 → inR r.2.2.1 = true) := by
  have he := rule_ends0 h
  unfold endsE at he
  rw [Bool.or_eq_false_iff] at he
  refine ⟨fun hz => ?_, fun hz => ?_⟩
  · by_cases k : r.1 = 3
    · rw [decide_eq_true k, decide_eq_false hz] at he; simp at he
    · rw [decide_eq_false k] at he
      exact has_range' ha (by simpa using he.1)
  · by_cases k : r.1 = 2
    · rw [decide_eq_true k, decide_eq_false hz] at he; simp at he
    · rw [decide_eq_false k] at he
      exact has_range' hb (by simpa using he.2)
def froms (l : List Rule) : List Int := l.map fun q => q.2.1
def tos (l : List Rule) : List Int := l.map fun q => q.2.2.1
theorem inR_zero : inR 0 = false := by decide
theorem twice_any (prev : List Rule) (r : Rule) (h1 : r.2.1 ≠ 0 → inR r.2.1 = true) (h2 : r.2.2.1 ≠ 0 → inR r.2.2.1 = true) :
    prev.any (fun q => twiceR q r) = (!decide (¬ (r.2.1 ∈ froms prev ∧ inR r.2.1 = true)) || !decide (¬ (r.2.2.1 ∈ tos prev ∧ inR r.2.2.1 = true))) := by
  have e : prev.any (fun q => twiceR q r) = true ↔ ((r.2.1 ∈ froms prev ∧ inR r.2.1 = true) ∨ (r.2.2.1 ∈ tos prev ∧ inR r.2.2.1 = true)) := by
    rw [List.any_eq_true]
    unfold twiceR froms tos
    simp only [List.mem_map]
    constructor
    · rintro ⟨q, hq, h⟩
      simp only [Bool.or_eq_true, Bool.and_eq_true, Bool.not_eq_true', decide_eq_false_iff_not, decide_eq_true_eq] at h
      rcases h with ⟨g1, g2⟩ | ⟨g1, g2⟩
      · exact .inl ⟨⟨q, hq, g2⟩, h1 (by rw [← g2]; exact g1)⟩
      · exact .inr ⟨⟨q, hq, g2⟩, h2 (by rw [← g2]; exact g1)⟩
    · rintro (⟨⟨q, hq, g⟩, hr⟩ | ⟨⟨q, hq, g⟩, hr⟩)
      · refine ⟨q, hq, ?_⟩
        have : q.2.1 ≠ 0 := fun e => by rw [← g, e, inR_zero] at hr; cases hr
        rw [decide_eq_false this, decide_eq_true g]; rfl
      · refine ⟨q, hq, ?_⟩
        have : q.2.2.1 ≠ 0 := fun e => by rw [← g, e, inR_zero] at hr; cases hr
        rw [decide_eq_false this, decide_eq_true g]; simp
  cases hb : prev.any (fun q => twiceR q r) with
  | true =>
    rcases e.1 hb with h | h
    · rw [decide_eq_false (fun hn => hn h)]; rfl
    · rw [show decide (¬ (r.2.2.1 ∈ tos prev ∧ inR r.2.2.1 = true)) = false from decide_eq_false (fun hn => hn h)]; simp
  | false =>
    have hn := fun h => (by rw [hb] at e; exact absurd (e.2 h) (by simp) : False)
    rw [decide_eq_true (show ¬ (r.2.1 ∈ froms prev ∧ inR r.2.1 = true) from fun h => hn (.inl h)), decide_eq_true (show ¬ (r.2.2.1 ∈ tos prev ∧ inR r.2.2.1 = true) from fun h => hn (.inr h))]; rfl
abbrev S2 := Int × Int × Unit
def fsS (l : List Int) : S2 := ((setH l : Int), (setL l : Int), ())
theorem rules_run (a b : Schema) (ha : a.2.2.1.length ≤ maxLen) (hb : b.2.2.1.length ≤ maxLen) (oa : Okay a) (ob : Okay b) : ∀ (l : List Rule) (i : Int) (prev : List Rule), (∀ r ∈ l, RuleOk r) →
    runI (fun i (x : Rule) (s : S2 × S2) K => ((rule_Check x a b).bind fun r3 => (bif (!decide (r3 = 0)) then some (Sum.inl (r3, (3 : Int), i)) else ((fields_Of ([x.2.1] : List Int)).bind fun r4 => ((fields_Of ([x.2.2.1] : List Int)).bind fun r5 => ((fields_Set_Both s.1 r4).bind fun r6 => (bif (!(decide (r6.1 = 0) && (decide (r6.2.1 = 0) && true))) then some (Sum.inl ((10 : Int), (3 : Int), i)) else ((fields_Set_Both s.2 r5).bind fun r7 => (bif (!(decide (r7.1 = 0) && (decide (r7.2.1 = 0) && true))) then some (Sum.inl ((10 : Int), (3 : Int), i)) else ((fields_Set_Either s.1 r4).bind fun r8 => ((fields_Set_Either s.2 r5).bind fun r9 => K (r8, r9)))))))))))) (fun _ => some (Sum.inr ())) l i (fsS (froms prev), fsS (tos prev)) = rulesR (rulesC a b prev l i)
  | [], i, prev, _ => rfl
  | r :: l, i, prev, h => by
    simp only [runI, rulesC]
    rw [ruleCheck_eq r a b (h r List.mem_cons_self) ha hb, Option.bind_some]
    by_cases z : ruleC r a b = 0
    · rw [decide_eq_true z, if_pos z]
      simp only [Bool.not_true, cond_false]
      obtain ⟨i1, i2⟩ := rule_inR oa ob z
      have hany := twice_any prev r i1 i2
      rw [Of_eq _ (by simp [maxLen_eq]), Option.bind_some, Of_eq _ (by simp [maxLen_eq]), Option.bind_some]
      unfold fsS
      rw [Both_eq _ _ _ _ (setH_lt _) (setL_lt _) (setH_lt _) (setL_lt _), Option.bind_some]
      dsimp only
      rw [zero_dec, decide_eq_decide.2 (both_zero (froms prev) r.2.1)]
      by_cases c1 : ¬ (r.2.1 ∈ froms prev ∧ inR r.2.1 = true)
      · rw [decide_eq_true c1] at hany ⊢
        simp only [Bool.not_true, cond_false]
        rw [Both_eq _ _ _ _ (setH_lt _) (setL_lt _) (setH_lt _) (setL_lt _), Option.bind_some]
        dsimp only
        rw [zero_dec, decide_eq_decide.2 (both_zero (tos prev) r.2.2.1)]
        by_cases c2 : ¬ (r.2.2.1 ∈ tos prev ∧ inR r.2.2.1 = true)
        · rw [decide_eq_true c2] at hany ⊢
          rw [hany]
          simp only [Bool.not_true, cond_false, Bool.or_false]
          rw [if_neg (by simp), Either_eq _ _ _ _ (setH_lt _) (setL_lt _) (setH_lt _) (setL_lt _), Option.bind_some, Either_eq _ _ _ _ (setH_lt _) (setL_lt _) (setH_lt _) (setL_lt _), Option.bind_some]
          have := rules_run a b ha hb oa ob l (i + 1) (prev ++ [r]) (fun q hq => h q (List.mem_cons_of_mem _ hq))
          rw [show froms (prev ++ [r]) = froms prev ++ [r.2.1] by simp [froms], show tos (prev ++ [r]) = tos prev ++ [r.2.2.1] by simp [tos]] at this
          unfold fsS at this
          rw [setH_snoc, setL_snoc, setH_snoc, setL_snoc] at this
          exact this
        · rw [decide_eq_false c2] at hany ⊢
          rw [hany]; rfl
      · rw [decide_eq_false c1] at hany ⊢
        rw [hany]; rfl
    · rw [decide_eq_false z, if_neg z]; rfl
theorem schemas_loop (m : Map) (a b : Schema) (ha : a.2.2.1.length ≤ maxLen) (hb : b.2.2.1.length ≤ maxLen) : xlate_Check_l0 FUEL ([a, b] : List Schema) ((List.length ([a, b] : List Schema)) : Int) 0 m a b = some (if (schemaC a).1 = 0 then (if (schemaC b).1 = 0 then .inr (m, a, b) else .inl (1, 1, 1, m, a, b)) else .inl (1, 1, 0, m, a, b)) := by
  obtain ⟨k, hk⟩ := fuel3
  rw [hk]
  simp only [xlate_Check_l0, xlate_Check_s1]
  have w0 : ∀ {R : Type} (x : Option R), within 0 ([a, b] : List Schema).length x = x := fun x => within_int (by omega) (by simp)
  have w1 : ∀ {R : Type} (x : Option R), within 1 ([a, b] : List Schema).length x = x := fun x => within_int (by omega) (by simp)
  have e1 : IntKind.i64.wrap (0 + 1) = 1 := rfl
  have e2 : IntKind.i64.wrap (1 + 1) = 2 := rfl
  have d0 : decide ((0 : Int) < (([a, b] : List Schema).length : Int)) = true := rfl
  have d1 : decide ((1 : Int) < (([a, b] : List Schema).length : Int)) = true := rfl
  have d2 : decide ((2 : Int) < (([a, b] : List Schema).length : Int)) = false := rfl
  rw [d0, cond_true, w0, show List.getD ([a, b] : List Schema) (0 : Int).toNat ((0 : Int), (0 : Int), ([] : List Spec), ()) = a from rfl, Check_eq a ha, Option.bind_some]
  by_cases za : (schemaC a).1 = 0
  · rw [decide_eq_true za, if_pos za]
    simp only [Bool.not_true, cond_false]
    rw [e1, d1, cond_true, w1, show List.getD ([a, b] : List Schema) (1 : Int).toNat ((0 : Int), (0 : Int), ([] : List Spec), ()) = b from rfl, Check_eq b hb, Option.bind_some]
    by_cases zb : (schemaC b).1 = 0
    · rw [decide_eq_true zb, if_pos zb]
      simp only [Bool.not_true, cond_false]
      rw [e2, d2, cond_false]
    · rw [decide_eq_false zb, if_neg zb]; rfl
  · rw [decide_eq_false za, if_neg za]; rfl
abbrev rule0 : Rule := (0, 0, 0, bs [], [], ())
theorem xlateCheck_eq (m : Map) (a b : Schema) (h : MapOk m) (ha : a.2.2.1.length ≤ maxLen) (hb : b.2.2.1.length ≤ maxLen) : xlate_Check m a b = some (mapC m a b) := by
  have h1 := h.mtis.len
  have h2 := h.len
  unfold xlate_Check xlate_Check_s0 mapC
  dsimp only
  rw [schemas_loop m a b ha hb, Option.bind_some]
  by_cases za : (schemaC a).1 = 0
  · rw [if_pos za, if_pos za]
    by_cases zb : (schemaC b).1 = 0
    · rw [if_pos zb, if_pos zb]
      simp only [Sum.elim_inr]
      unfold xlate_Check_s3
      by_cases hm : 256 < m.1.length
      · rw [decide_eq_true (by omega), if_pos hm]; rfl
      · rw [decide_eq_false (by omega), if_neg hm, cond_false]
        dsimp only
        rw [mtis_loop m a b h.mtis]
        unfold mtisR
        cases mtisC a b [] m.1 0 with
        | some e => rfl
        | none =>
          simp only [Option.bind_some, Sum.elim_inr]
          unfold xlate_Check_s6
          by_cases hr : 256 < m.2.1.length
          · rw [decide_eq_true (by omega), if_pos hr]; rfl
          · rw [decide_eq_false (by omega), if_neg hr, cond_false]
            dsimp only
            have := loopI rule0 m.2.1 (by rw [maxLen_eq]; omega) (fun i (x : Rule) (s : S2 × S2) K => ((rule_Check x a b).bind fun r3 => (bif (!decide (r3 = 0)) then some (Sum.inl (r3, (3 : Int), i)) else ((fields_Of ([x.2.1] : List Int)).bind fun r4 => ((fields_Of ([x.2.2.1] : List Int)).bind fun r5 => ((fields_Set_Both s.1 r4).bind fun r6 => (bif (!(decide (r6.1 = 0) && (decide (r6.2.1 = 0) && true))) then some (Sum.inl ((10 : Int), (3 : Int), i)) else ((fields_Set_Both s.2 r5).bind fun r7 => (bif (!(decide (r7.1 = 0) && (decide (r7.2.1 = 0) && true))) then some (Sum.inl ((10 : Int), (3 : Int), i)) else ((fields_Set_Either s.1 r4).bind fun r8 => ((fields_Set_Either s.2 r5).bind fun r9 => K (r8, r9)))))))))))) (fun _ => some (Sum.inr ()))
              (fun k i s => xlate_Check_l2 k m.2.1 (m.2.1.length : Int) i a b s.1 s.2) (fun k i s => rfl) (fsS (froms []), fsS (tos []))
            have h3 := rules_run a b ha hb ((schemaC_ok a).1 za) ((schemaC_ok b).1 zb) m.2.1 0 [] h.rules
            rw [h3] at this
            have h4 : fsS (froms []) = ((0 : Int), (0 : Int), ()) := rfl
            have h5 : fsS (tos []) = ((0 : Int), (0 : Int), ()) := rfl
            rw [h4, h5] at this
            rw [this]
            unfold rulesR
            cases rulesC a b [] m.2.1 0 <;> rfl
    · rw [if_neg zb, if_neg zb]; rfl
  · rw [if_neg za, if_neg za]; rfl
end Groat
set_option linter.unusedVariables false
set_option linter.unusedSimpArgs false
namespace Groat
open Go Go.Ref
instance ruleDec : DecidableEq Rule := fun x y => decidable_of_iff ((decide (x.1 = y.1) && (decide (x.2.1 = y.2.1) && (decide (x.2.2.1 = y.2.2.1) && (decide (x.2.2.2.1 = y.2.2.2.1) && decide (x.2.2.2.2.1 = y.2.2.2.2.1))))) = true) (by obtain ⟨a1, a2, a3, a4, a5, u⟩ := x; obtain ⟨b1, b2, b3, b4, b5, v⟩ := y; simp)
instance mapDec : DecidableEq Map := fun x y => decidable_of_iff ((decide (x.1 = y.1) && decide (x.2.1 = y.2.1)) = true) (by obtain ⟨a1, a2, u⟩ := x; obtain ⟨b1, b2, v⟩ := y; simp)
def turnR (r : Rule) : Rule := (r.1, r.2.2.1, r.2.1, r.2.2.2.1, turnP r.2.2.2.2.1, ())
def turnM (m : Map) : Map := (turnP m.1, m.2.1.map turnR, ())
abbrev map0 : Map := ([], [], ())
theorem turnM_run (f : List Pair → Option (List Pair)) (hf : ∀ l, l.length ≤ 1000000 → f l = some (turnP l)) : ∀ (l : List Rule) (i : Int) (s : Map × Map), (∀ r ∈ l, r.2.2.2.2.1.length ≤ 1000000) → s.2.2.1.length + l.length ≤ 1099511627776 →
    runI (fun i (x : Rule) (s : Map × Map) K => ((f x.2.2.2.2.1).bind fun r2 => (bif (decide ((s.2.2.1.length + (List.length ([(x.1, x.2.2.1, x.2.1, x.2.2.2.1, r2, ())] : List Rule))) * 64 ≤ 140737488355328)) then K (s.1, (s.2.1, (s.2.2.1 ++ ([(x.1, x.2.2.1, x.2.1, x.2.2.2.1, r2, ())] : List Rule)), ())) else none))) (fun s => some s) l i s = some (s.1, (s.2.1, s.2.2.1 ++ l.map turnR, ()))
  | [], i, s, _, _ => by simp only [runI, List.map_nil, List.append_nil]
  | r :: l, i, s, h, hl => by
    simp only [List.length_cons] at hl
    simp only [runI]
    rw [hf _ (h r List.mem_cons_self), Option.bind_some, decide_eq_true (by simp; omega), cond_true]
    have := turnM_run f hf l (i + 1) (s.1, (s.2.1, (s.2.2.1 ++ [turnR r]), ())) (fun q hq => h q (List.mem_cons_of_mem _ hq)) (by simp; omega)
    refine Eq.trans this ?_
    simp
theorem Turn_eq (m : Map) (h : MapOk m) : invert_Turn m = some (turnM m) := by
  have hl := h.len
  unfold invert_Turn invert_Turn_s0
  dsimp only
  rw [codesTurn_eq _ h.mtis.len, Option.bind_some]
  have := loopI rule0 m.2.1 (by rw [maxLen_eq]; omega) (fun i (x : Rule) (s : Map × Map) K => ((codes_Turn x.2.2.2.2.1).bind fun r2 => (bif (decide ((s.2.2.1.length + (List.length ([(x.1, x.2.2.1, x.2.1, x.2.2.2.1, r2, ())] : List Rule))) * 64 ≤ 140737488355328)) then K (s.1, (s.2.1, (s.2.2.1 ++ ([(x.1, x.2.2.1, x.2.1, x.2.2.2.1, r2, ())] : List Rule)), ())) else none))) (fun s => some s)
    (fun k i s => invert_Turn_l0 k m.2.1 (m.2.1.length : Int) i s.1 s.2) (fun k i s => rfl) (map0, (turnP m.1, [], ()))
  rw [turnM_run codes_Turn codesTurn_eq _ _ _ (fun r hr => (h.rules r hr).pairs.len) (by simp; omega)] at this
  rw [this]
  rfl
theorem Turn22_eq (m : Map) (h : MapOk m) : groatref22_Turn m = some (turnM m) := by
  have hl := h.len
  unfold groatref22_Turn groatref22_Turn_s0
  dsimp only
  rw [Turn19_eq _ h.mtis.len, Option.bind_some]
  have := loopI rule0 m.2.1 (by rw [maxLen_eq]; omega) (fun i (x : Rule) (s : Map × Map) K => ((groatref19_Turn x.2.2.2.2.1).bind fun r2 => (bif (decide ((s.2.2.1.length + (List.length ([(x.1, x.2.2.1, x.2.1, x.2.2.2.1, r2, ())] : List Rule))) * 64 ≤ 140737488355328)) then K (s.1, (s.2.1, (s.2.2.1 ++ ([(x.1, x.2.2.1, x.2.1, x.2.2.2.1, r2, ())] : List Rule)), ())) else none))) (fun s => some s)
    (fun k i s => groatref22_Turn_l0 k i m s.1 s.2) (fun k i s => rfl) (map0, (turnP m.1, [], ()))
  rw [turnM_run groatref19_Turn Turn19_eq _ _ _ (fun r hr => (h.rules r hr).pairs.len) (by simp; omega)] at this
  rw [this]
  rfl
theorem Copy20_eq (r : Rule) (h : RuleOk r) : groatref20_Copy r = some r := by
  unfold groatref20_Copy groatref20_Copy_s0
  rw [Copy19_eq _ h.pairs.len]; rfl
theorem copyM_run : ∀ (l : List Rule) (i : Int) (s : Map × Map), (∀ r ∈ l, RuleOk r) → s.2.2.1.length + l.length ≤ 1099511627776 →
    runI (fun i (x : Rule) (s : Map × Map) K => ((groatref20_Copy x).bind fun r2 => (bif (decide ((s.2.2.1.length + (List.length ([r2] : List Rule))) * 64 ≤ 140737488355328)) then K (s.1, (s.2.1, (s.2.2.1 ++ ([r2] : List Rule)), ())) else none))) (fun s => some s) l i s = some (s.1, (s.2.1, s.2.2.1 ++ l, ()))
  | [], i, s, _, _ => by simp only [runI, List.append_nil]
  | r :: l, i, s, h, hl => by
    simp only [List.length_cons] at hl
    simp only [runI]
    rw [Copy20_eq r (h r List.mem_cons_self), Option.bind_some, decide_eq_true (by simp; omega), cond_true]
    have := copyM_run l (i + 1) (s.1, (s.2.1, (s.2.2.1 ++ [r]), ())) (fun q hq => h q (List.mem_cons_of_mem _ hq)) (by simp; omega)
    refine Eq.trans this ?_
    simp
theorem Copy21_eq (m : Map) (h : MapOk m) : groatref21_Copy m = some m := by
  have hl := h.len
  unfold groatref21_Copy groatref21_Copy_s0
  dsimp only
  rw [Copy19_eq _ h.mtis.len, Option.bind_some]
  have := loopI rule0 m.2.1 (by rw [maxLen_eq]; omega) (fun i (x : Rule) (s : Map × Map) K => ((groatref20_Copy x).bind fun r2 => (bif (decide ((s.2.2.1.length + (List.length ([r2] : List Rule))) * 64 ≤ 140737488355328)) then K (s.1, (s.2.1, (s.2.2.1 ++ ([r2] : List Rule)), ())) else none))) (fun s => some s)
    (fun k i s => groatref21_Copy_l0 k i m s.1 s.2) (fun k i s => rfl) (map0, (m.1, [], ()))
  rw [copyM_run _ _ _ h.rules (by simp; omega)] at this
  rw [this]
  rfl
def eqRl (x y : Rule) : Bool := decide (x.1 = y.1) && (decide (x.2.1 = y.2.1) && (decide (x.2.2.1 = y.2.2.1) && (decide (x.2.2.2.1 = y.2.2.2.1) && decide (x.2.2.2.2.1 = y.2.2.2.2.1))))
theorem eqRl_iff (x y : Rule) : eqRl x y = true ↔ x = y := by
  obtain ⟨a1, a2, a3, a4, a5, u⟩ := x
  obtain ⟨b1, b2, b3, b4, b5, v⟩ := y
  simp [eqRl]
theorem Same22_eq (a b : Map) (h : MapOk a) : groatref22_Same a b = some (decide (a = b)) := by
  have hl := h.len
  unfold groatref22_Same groatref22_Same_s0
  dsimp only
  rw [Same19_eq _ _ (by have := h.mtis.len; rw [maxLen_eq]; omega), Option.bind_some]
  have hab : a = b ↔ a.1 = b.1 ∧ a.2.1 = b.2.1 := by
    obtain ⟨a1, a2, u⟩ := a
    obtain ⟨b1, b2, v⟩ := b
    simp
  by_cases h1 : a.1 = b.1
  · rw [decide_eq_true h1]
    simp only [Bool.not_true, cond_false]
    by_cases h2 : a.2.1.length = b.2.1.length
    · rw [decide_eq_true (by omega)]
      simp only [Bool.not_true, cond_false]
      rw [same_loop rule0 eqRl eqRl_iff a.2.1 b.2.1 h2 (by rw [maxLen_eq]; omega) (fun k i => groatref22_Same_l0 k i a b) (fun k i => by
        show groatref22_Same_l0 (k + 1) i a b = _
        conv => lhs; unfold groatref22_Same_l0 groatref22_Same_s1
        have hp : (a.2.1.getD i.toNat rule0).2.2.2.2.1.length ≤ maxLen := by
          rw [List.getD_eq_getElem?_getD]
          cases hq : a.2.1[i.toNat]? with
          | none => simp [maxLen_eq]
          | some r =>
            have := (h.rules r (List.mem_of_getElem? hq)).pairs.len
            show r.2.2.2.2.1.length ≤ _
            rw [maxLen_eq]; omega
        rw [Same19_eq _ _ hp, Option.bind_some]
        unfold eqRl
        generalize decide ((a.2.1.getD i.toNat rule0).1 = (b.2.1.getD i.toNat rule0).1) = c1
        generalize decide ((a.2.1.getD i.toNat rule0).2.1 = (b.2.1.getD i.toNat rule0).2.1) = c2
        generalize decide ((a.2.1.getD i.toNat rule0).2.2.1 = (b.2.1.getD i.toNat rule0).2.2.1) = c3
        generalize decide ((a.2.1.getD i.toNat rule0).2.2.2.1 = (b.2.1.getD i.toNat rule0).2.2.2.1) = c4
        generalize decide ((a.2.1.getD i.toNat rule0).2.2.2.2.1 = (b.2.1.getD i.toNat rule0).2.2.2.2.1) = c5
        cases c1 <;> cases c2 <;> cases c3 <;> cases c4 <;> cases c5 <;> rfl)]
      by_cases he : a.2.1 = b.2.1
      · rw [if_pos he, decide_eq_true (hab.2 ⟨h1, he⟩)]; rfl
      · rw [if_neg he, decide_eq_false (fun e => he (hab.1 e).2)]; rfl
    · rw [decide_eq_false (by omega), decide_eq_false (fun e => h2 (by rw [(hab.1 e).2]))]; rfl
  · rw [decide_eq_false h1, decide_eq_false (fun e => h1 (hab.1 e).1)]; rfl
def undoneR (r : Rule) (a b : Schema) : Bool :=
  bif decide (r.1 = 1) then (widS (getS a r.2.1) (getS b r.2.2.1) && widS (getS b r.2.2.1) (getS a r.2.1)) else bif decide (r.1 = 4) then decide ((getS a r.2.1).2.2.2.1 ≤ (getS b r.2.2.1).2.2.2.1) else bif decide (r.1 = 5) then bij r.2.2.2.2.1 else false
def invC (m : Map) (a b : Schema) : Bool := decide ((mapC m a b).1 = 0) && (bij m.1 && m.2.1.all fun r => undoneR r a b)
theorem undone_eq (r : Rule) (a b : Schema) (h : RuleOk r) (ha : a.2.2.1.length ≤ maxLen) (hb : b.2.2.1.length ≤ maxLen) : invert_undone r a b = some (undoneR r a b) := by
  unfold invert_undone invert_undone_s0 undoneR
  rw [Find_eq2 a _ ha, Option.bind_some, Find_eq2 b _ hb, Option.bind_some, Wider_eq', Option.bind_some, Wider_eq', Option.bind_some, codesBij_eq _ h.pairs.len, Option.bind_some]
  generalize decide (r.1 = 1) = c1
  generalize decide (r.1 = 4) = c2
  generalize decide (r.1 = 5) = c3
  generalize widS (getS a r.2.1) (getS b r.2.2.1) = w1
  cases c1 <;> cases c2 <;> cases c3 <;> cases w1 <;> rfl
def allR (t : Bool) : Option (Sum Bool Unit) := some (bif t then .inr () else .inl false)
theorem undone_run (a b : Schema) (ha : a.2.2.1.length ≤ maxLen) (hb : b.2.2.1.length ≤ maxLen) : ∀ (l : List Rule) (i : Int), (∀ r ∈ l, RuleOk r) →
    runI (fun i (x : Rule) (s : Unit) K => ((invert_undone x a b).bind fun r3 => (bif (!r3) then some (Sum.inl false) else K s))) (fun _ => some (Sum.inr ())) l i () = allR (l.all fun r => undoneR r a b)
  | [], i, _ => rfl
  | r :: l, i, h => by
    simp only [runI, List.all_cons]
    rw [undone_eq r a b (h r List.mem_cons_self) ha hb, Option.bind_some]
    cases undoneR r a b with
    | false => rfl
    | true => exact undone_run a b ha hb l (i + 1) fun q hq => h q (List.mem_cons_of_mem _ hq)
theorem invCheck_eq (m : Map) (a b : Schema) (h : MapOk m) (ha : a.2.2.1.length ≤ maxLen) (hb : b.2.2.1.length ≤ maxLen) : invert_Check m a b = some (invC m a b) := by
  have hl := h.len
  unfold invert_Check invert_Check_s0 invC
  rw [xlateCheck_eq m a b h ha hb, Option.bind_some]
  cases decide ((mapC m a b).1 = 0) with
  | false => rfl
  | true =>
    simp only [Bool.not_true, cond_false, Bool.true_and]
    rw [codesBij_eq _ h.mtis.len, Option.bind_some]
    cases bij m.1 with
    | false => rfl
    | true =>
      simp only [Bool.not_true, cond_false, Bool.true_and]
      have := loopI rule0 m.2.1 (by rw [maxLen_eq]; omega) (fun i (x : Rule) (s : Unit) K => ((invert_undone x a b).bind fun r3 => (bif (!r3) then some (Sum.inl false) else K s))) (fun _ => some (Sum.inr ()))
        (fun k i s => invert_Check_l0 k m.2.1 (m.2.1.length : Int) i a b) (fun k i s => rfl) ()
      rw [this, undone_run a b ha hb _ 0 h.rules]
      unfold allR
      cases (m.2.1.all fun r => undoneR r a b) <;> rfl
end Groat
set_option linter.unusedVariables false
set_option linter.unusedSimpArgs false
namespace Groat
open Go Go.Ref
structure Rule0 (r : Rule) (a b : Schema) : Prop where
  lo : ¬ r.1 < 1
  hi : ¬ (5 : Int) < r.1
  ends : endsE r a b = false
  text : textE r = false
  kind : kindC r (getS a r.2.1) (getS b r.2.2.1) = 0
theorem rule0_iff {r : Rule} {a b : Schema} : ruleC r a b = 0 ↔ Rule0 r a b := by
  constructor
  · intro h
    unfold ruleC at h
    by_cases c1 : r.1 < 1
    · rw [decide_eq_true c1] at h; simp at h
    by_cases c2 : (5 : Int) < r.1
    · rw [decide_eq_true c2] at h; simp at h
    rw [decide_eq_false c1, decide_eq_false c2] at h
    simp only [Bool.or_self, cond_false] at h
    cases he : endsE r a b with
    | true => rw [he] at h; simp at h
    | false =>
      rw [he, cond_false] at h
      cases ht : textE r with
      | true => rw [ht] at h; simp at h
      | false => rw [ht, cond_false] at h; exact ⟨c1, c2, he, ht, h⟩
  · intro h
    unfold ruleC
    rw [decide_eq_false h.lo, decide_eq_false h.hi, h.ends, h.text]
    exact h.kind
theorem Rule0.hasA {r : Rule} {a b : Schema} (h : Rule0 r a b) (k : r.1 ≠ 3) : hasS a r.2.1 = true := by
  have he := h.ends
  unfold endsE at he
  rw [Bool.or_eq_false_iff, decide_eq_false k] at he
  simpa using he.1
theorem Rule0.hasB {r : Rule} {a b : Schema} (h : Rule0 r a b) (k : r.1 ≠ 2) : hasS b r.2.2.1 = true := by
  have he := h.ends
  unfold endsE at he
  rw [Bool.or_eq_false_iff, decide_eq_false k] at he
  simpa using he.2
theorem Rule0.wid {r : Rule} {a b : Schema} (h : Rule0 r a b) (k : r.1 = 1) : widS (getS b r.2.2.1) (getS a r.2.1) = true := by
  have hk := h.kind
  unfold kindC at hk
  rw [decide_eq_true k, cond_true] at hk
  cases hw : widS (getS b r.2.2.1) (getS a r.2.1) with
  | true => rfl
  | false => rw [hw] at hk; simp at hk
theorem idx_of {s : Schema} {no : Int} (h : hasS s no = true) : 0 ≤ idxS s.2.2.1 no 0 ∧ idxS s.2.2.1 no 0 < s.2.2.1.length ∧ s.2.2.1.getD (idxS s.2.2.1 no 0).toNat spec0 = getS s no := by
  rcases idx_cases s no with ⟨_, h2, _⟩ | ⟨h1, h2, _, h3⟩
  · rw [h2] at h; cases h
  · exact ⟨h1, h2, h3⟩
theorem check22_loop (m : Map) (a b : Schema) (h : MapOk m) (ha : a.2.2.1.length ≤ maxLen) (hb : b.2.2.1.length ≤ maxLen) (h0 : ∀ r ∈ m.2.1, ruleC r a b = 0) : ∀ (n j k : Nat), j + n = m.2.1.length → n < k → groatref22_Check_l0 k (j : Int) m a b = allR ((m.2.1.drop j).all fun r => undoneR r a b)
  | n, j, 0, _, hk => by omega
  | 0, j, k + 1, hj, hk => by
    unfold groatref22_Check_l0 groatref22_Check_s1
    rw [decide_eq_false (by omega), List.drop_eq_nil_of_le (by omega)]; rfl
  | n + 1, j, k + 1, hj, hk => by
    have hl := h.len
    have hlt : j < m.2.1.length := by omega
    have hr := h.rules _ (List.getElem_mem hlt)
    have r0 := rule0_iff.1 (h0 _ (List.getElem_mem hlt))
    have ih := check22_loop m a b h ha hb h0 n (j + 1) k (by omega) (by omega)
    unfold groatref22_Check_l0 groatref22_Check_s1
    rw [decide_eq_true (by omega), cond_true, within_nat_lt hlt, Int.toNat_natCast, rule_at hlt, List.drop_eq_getElem_cons hlt, List.all_cons]
    generalize m.2.1[j] = r at *
    unfold undoneR
    by_cases k2 : r.1 = 2
    · rw [decide_eq_true k2, cond_true, decide_eq_false (by omega : ¬ r.1 = 1), decide_eq_false (by omega : ¬ r.1 = 4), decide_eq_false (by omega : ¬ r.1 = 5)]; rfl
    by_cases k3 : r.1 = 3
    · rw [decide_eq_false k2, cond_false, decide_eq_true k3, cond_true, decide_eq_false (by omega : ¬ r.1 = 1), decide_eq_false (by omega : ¬ r.1 = 4), decide_eq_false (by omega : ¬ r.1 = 5)]; rfl
    obtain ⟨a1, a2, a3⟩ := idx_of (r0.hasA k3)
    obtain ⟨b1, b2, b3⟩ := idx_of (r0.hasB k2)
    rw [decide_eq_false k2, cond_false, decide_eq_false k3, cond_false, Find13_eq a _ ha, Option.bind_some, within_int a1 a2, Find13_eq b _ hb, Option.bind_some, within_int b1 b2, a3, b3, Wider11_eq, Option.bind_some, Bij19_eq _ hr.pairs.len, Option.bind_some]
    have hnx : (fun a0 a1 a2 a3 => groatref22_Check_l0 k a0 a1 a2 a3) (IntKind.i64.wrap ((j : Int) + 1)) m a b = allR ((m.2.1.drop (j + 1)).all fun r => undoneR r a b) := by
      rw [i64_succ (by omega)]; exact ih
    by_cases k1 : r.1 = 1
    · rw [decide_eq_true k1, decide_eq_false (by omega : ¬ r.1 = 4), decide_eq_false (by omega : ¬ r.1 = 5), r0.wid k1]
      simp only [cond_true, cond_false, Bool.and_true]
      cases widS (getS a r.2.1) (getS b r.2.2.1) with
      | false => rfl
      | true => exact hnx
    · by_cases k4 : r.1 = 4
      · rw [decide_eq_false k1, decide_eq_true k4, decide_eq_false (by omega : ¬ r.1 = 5)]
        simp only [cond_true, cond_false]
        by_cases hm : (getS a r.2.1).2.2.2.1 ≤ (getS b r.2.2.1).2.2.2.1
        · rw [decide_eq_true hm, decide_eq_false (by omega : ¬ (getS b r.2.2.1).2.2.2.1 < (getS a r.2.1).2.2.2.1)]
          exact hnx
        · rw [decide_eq_false hm, decide_eq_true (by omega : (getS b r.2.2.1).2.2.2.1 < (getS a r.2.1).2.2.2.1)]; rfl
      · have k5 : r.1 = 5 := by have := r0.lo; have := r0.hi; omega
        rw [decide_eq_false k1, decide_eq_false k4, decide_eq_true k5]
        simp only [cond_true, cond_false]
        cases bij r.2.2.2.2.1 with
        | false => rfl
        | true => exact hnx
theorem mtisC_none {a b : Schema} : ∀ {l : List Pair} {seen : List ByteArray} {i : Int}, mtisC a b seen l i = none ↔ (∀ p ∈ l, typedP p a b = true) ∧ dupP seen l i = none
  | [], seen, i => by simp [mtisC, dupP]
  | p :: r, seen, i => by
    simp only [mtisC, dupP, List.mem_cons, forall_eq_or_imp]
    cases ht : typedP p a b with
    | false => simp
    | true =>
      rw [if_pos rfl]
      by_cases hm : p.1 ∈ seen
      · simp [hm]
      · rw [if_neg hm, if_neg hm, mtisC_none]
        simp
def NoTwice : List Rule → List Rule → Prop
  | _, [] => True
  | prev, r :: l => prev.any (fun q => twiceR q r) = false ∧ NoTwice (prev ++ [r]) l
theorem rulesC_none {a b : Schema} : ∀ {l : List Rule} {prev : List Rule} {i : Int}, rulesC a b prev l i = none ↔ (∀ r ∈ l, ruleC r a b = 0) ∧ NoTwice prev l
  | [], prev, i => by simp [rulesC, NoTwice]
  | r :: l, prev, i => by
    simp only [rulesC, NoTwice, List.mem_cons, forall_eq_or_imp]
    by_cases z : ruleC r a b = 0
    · rw [if_pos z]
      cases hp : prev.any (fun q => twiceR q r) with
      | true => simp
      | false =>
        rw [if_neg (by simp), rulesC_none]
        simp [z]
    · rw [if_neg z]; simp [z]
theorem mtisC_some {a b : Schema} : ∀ {l : List Pair} {seen : List ByteArray} {i : Int} {e : Int × Int}, mtisC a b seen l i = some e → e.1 ≠ 0
  | p :: r, seen, i, e, h => by
    simp only [mtisC] at h
    split at h
    · split at h
      · cases h; simp
      · exact mtisC_some h
    · cases h; simp
theorem rulesC_some {a b : Schema} : ∀ {l : List Rule} {prev : List Rule} {i : Int} {e : Int × Int}, rulesC a b prev l i = some e → e.1 ≠ 0
  | r :: l, prev, i, e, h => by
    simp only [rulesC] at h
    split at h
    · split at h
      · cases h; simp
      · exact rulesC_some h
    · rename_i hz
      cases h; exact hz
structure Map0 (m : Map) (a b : Schema) : Prop where
  sa : (schemaC a).1 = 0
  sb : (schemaC b).1 = 0
  len1 : m.1.length ≤ 256
  typed : ∀ p ∈ m.1, typedP p a b = true
  dup : dupP [] m.1 0 = none
  len2 : m.2.1.length ≤ 256
  rules : ∀ r ∈ m.2.1, ruleC r a b = 0
  twice : NoTwice [] m.2.1
theorem map0_iff {m : Map} {a b : Schema} : (mapC m a b).1 = 0 ↔ Map0 m a b := by
  constructor
  · intro h
    unfold mapC at h
    split at h
    · split at h
      · rename_i h1 h2
        split at h
        · cases h
        · rename_i h3
          split at h
          · rename_i e he
            exact absurd h (mtisC_some he)
          · rename_i hm
            split at h
            · cases h
            · rename_i h4
              split at h
              · rename_i e he
                exact absurd h (rulesC_some he)
              · rename_i hr
                obtain ⟨g1, g2⟩ := mtisC_none.1 hm
                obtain ⟨g3, g4⟩ := rulesC_none.1 hr
                exact ⟨h1, h2, by omega, g1, g2, by omega, g3, g4⟩
      · cases h
    · cases h
  · intro h
    unfold mapC
    have e1 := mtisC_none.2 ⟨h.typed, h.dup⟩
    have e2 : rulesC a b [] m.2.1 0 = none := rulesC_none.2 ⟨h.rules, h.twice⟩
    have l1 := h.len1
    have l2 := h.len2
    rw [if_pos h.sa, if_pos h.sb, if_neg (by omega), e1]
    simp only
    rw [if_neg (by omega), e2]
theorem Map0.eq {m : Map} {a b : Schema} (h : Map0 m a b) : mapC m a b = (0, 0, 0) := by
  unfold mapC
  have e1 := mtisC_none.2 ⟨h.typed, h.dup⟩
  have e2 : rulesC a b [] m.2.1 0 = none := rulesC_none.2 ⟨h.rules, h.twice⟩
  have l1 := h.len1
  have l2 := h.len2
  rw [if_pos h.sa, if_pos h.sb, if_neg (by omega), e1]
  simp only
  rw [if_neg (by omega), e2]
theorem Check22_eq (m : Map) (a b : Schema) (h : MapOk m) (ha : a.2.2.1.length ≤ maxLen) (hb : b.2.2.1.length ≤ maxLen) : groatref22_Check m a b = some (invC m a b) := by
  have hl := h.len
  unfold groatref22_Check groatref22_Check_s0 groatref21_Right groatref21_Right_s0 invC
  rw [Check21_eq m a b h ha hb, Option.bind_some]
  by_cases hz : (mapC m a b).1 = 0
  · rw [decide_eq_true hz]
    simp only [Option.bind_some, Bool.not_true, cond_false, Bool.true_and]
    rw [Bij19_eq _ h.mtis.len, Option.bind_some]
    cases bij m.1 with
    | false => rfl
    | true =>
      simp only [Bool.not_true, cond_false, Bool.true_and]
      have := check22_loop m a b h ha hb (map0_iff.1 hz).rules m.2.1.length 0 FUEL (by omega) (by rw [fuel_eq]; omega)
      rw [show ((0 : Nat) : Int) = (0 : Int) from rfl, List.drop_zero] at this
      rw [this]
      unfold allR
      cases (m.2.1.all fun r => undoneR r a b) <;> rfl
  · rw [decide_eq_false hz]; rfl
theorem PairsOk.turn {l : List Pair} (h : PairsOk l) : PairsOk (turnP l) := ⟨by rw [turnP_len]; exact h.len, fun p hp => by
  unfold turnP at hp
  obtain ⟨q, hq, rfl⟩ := List.mem_map.1 hp
  exact ⟨(h.sz q hq).2, (h.sz q hq).1⟩⟩
theorem MapOk.turn {m : Map} (h : MapOk m) : MapOk (turnM m) := ⟨h.mtis.turn, by show (m.2.1.map turnR).length ≤ _; rw [List.length_map]; exact h.len, fun r hr => by
  obtain ⟨q, hq, rfl⟩ := List.mem_map.1 (show r ∈ m.2.1.map turnR from hr)
  exact ⟨(h.rules q hq).text, (h.rules q hq).pairs.turn⟩⟩
end Groat
set_option linter.unusedVariables false
set_option linter.unusedSimpArgs false
namespace Groat
open Go Go.Ref
abbrev tSpec : Ty := .pair (.int .i64) (.pair (.int .i64) (.pair (.int .i64) (.pair (.int .i64) (.pair (.int .i64) .unit))))
abbrev tSchema : Ty := .pair (.int .i64) (.pair (.int .i64) (.pair (.sl 0 tSpec) .unit))
end Groat
set_option linter.unusedVariables false
set_option linter.unusedSimpArgs false
namespace Groat
open Go Go.Ref
theorem awake22 : groatlaw22_awake = some true := by kernel_rfl
abbrev tPair : Ty := .pair .str (.pair .str .unit)
abbrev tRule : Ty := .pair (.int .i64) (.pair (.int .i64) (.pair (.int .i64) (.pair .str (.pair (.sl 0 tPair) .unit))))
abbrev tMap : Ty := .pair (.sl 0 tPair) (.pair (.sl 0 tRule) .unit)
def small (n : Nat) (l : List Pair) : Bool := l.all fun p => !decide ((n : Int) < (p.1.size : Int)) && !decide ((n : Int) < (p.2.1.size : Int))
theorem small_sz {n : Nat} {l : List Pair} (hn : n ≤ 1200) (h : small n l = true) : ∀ p ∈ l, p.1.size ≤ 1099511627776 ∧ p.2.1.size ≤ 1099511627776 := fun p hp => by
  have := List.all_eq_true.1 h p hp
  simp only [Bool.and_eq_true, Bool.not_eq_true', decide_eq_false_iff_not] at this
  omega
def grR (t : Bool) : Option (Sum Bool Unit) := some (bif t then .inr () else .inl true)
theorem gr_run : ∀ (l : List Pair) (i : Int), runI (fun i (p : Pair) (s : Unit) K => bif (decide (1200 < ((p.1).size : Int))) then some (Sum.inl true) else (bif (decide (1200 < ((p.2.1).size : Int))) then some (Sum.inl true) else K s)) (fun _ => some (Sum.inr ())) l i () = grR (small 1200 l)
  | [], i => rfl
  | p :: r, i => by
    simp only [runI, small, List.all_cons]
    by_cases h1 : (1200 : Int) < (p.1.size : Int)
    · rw [decide_eq_true h1, decide_eq_true (show ((1200 : Nat) : Int) < (p.1.size : Int) from h1)]; rfl
    · rw [decide_eq_false h1, decide_eq_false (show ¬ ((1200 : Nat) : Int) < (p.1.size : Int) from h1)]
      by_cases h2 : (1200 : Int) < (p.2.1.size : Int)
      · rw [decide_eq_true h2, decide_eq_true (show ((1200 : Nat) : Int) < (p.2.1.size : Int) from h2)]; rfl
      · rw [decide_eq_false h2, decide_eq_false (show ¬ ((1200 : Nat) : Int) < (p.2.1.size : Int) from h2)]
        exact gr_run r (i + 1)
def greatR (r : Rule) : Bool := decide ((1200 : Int) < (r.2.2.2.1.size : Int)) || (decide ((300 : Int) < (r.2.2.2.2.1.length : Int)) || !small 1200 r.2.2.2.2.1)
theorem Great20_eq (r : Rule) (h : r.2.2.2.2.1.length ≤ maxLen) : groatref20_Great r = some (greatR r) := by
  unfold groatref20_Great groatref20_Great_s0 greatR
  cases decide ((1200 : Int) < (r.2.2.2.1.size : Int)) with
  | true => rfl
  | false =>
    cases decide ((300 : Int) < (r.2.2.2.2.1.length : Int)) with
    | true => rfl
    | false =>
      simp only [cond_false, Bool.false_or]
      have := loopJ pair0 r.2.2.2.2.1 h (fun i (p : Pair) (s : Unit) K => bif (decide (1200 < ((p.1).size : Int))) then some (Sum.inl true) else (bif (decide (1200 < ((p.2.1).size : Int))) then some (Sum.inl true) else K s)) (fun _ => some (Sum.inr ()))
        (fun k i s => groatref20_Great_l0 k i r) (fun k i s h0 h1 => by
          show groatref20_Great_l0 (k + 1) i r = _
          conv => lhs; unfold groatref20_Great_l0 groatref20_Great_s1
          rw [decide_eq_true h1, cond_true, within_int h0 h1, within_int h0 h1]
          rfl) (fun k s => by
          show groatref20_Great_l0 (k + 1) r.2.2.2.2.1.length r = _
          conv => lhs; unfold groatref20_Great_l0 groatref20_Great_s1
          rw [decide_eq_false (by omega), cond_false]) ()
      rw [this, gr_run]
      unfold grR
      cases small 1200 r.2.2.2.2.1 <;> rfl
theorem greatR_ok {r : Rule} (h : greatR r = false) : RuleOk r := by
  unfold greatR at h
  simp only [Bool.or_eq_false_iff, decide_eq_false_iff_not, Bool.not_eq_false'] at h
  obtain ⟨h1, h2, h3⟩ := h
  exact ⟨by omega, by omega, small_sz (by omega) h3⟩
theorem gm_run (m : Map) : ∀ (l : List Pair) (i : Int), runI (fun i (p : Pair) (s : Unit) K => bif (decide (100 < ((p.1).size : Int))) then some (Sum.inl (true, m)) else (bif (decide (100 < ((p.2.1).size : Int))) then some (Sum.inl (true, m)) else K s)) (fun _ => some (Sum.inr m)) l i () = some (bif small 100 l then .inr m else .inl (true, m))
  | [], i => rfl
  | p :: r, i => by
    simp only [runI, small, List.all_cons]
    by_cases h1 : (100 : Int) < (p.1.size : Int)
    · rw [decide_eq_true h1, decide_eq_true (show ((100 : Nat) : Int) < (p.1.size : Int) from h1)]; rfl
    · rw [decide_eq_false h1, decide_eq_false (show ¬ ((100 : Nat) : Int) < (p.1.size : Int) from h1)]
      by_cases h2 : (100 : Int) < (p.2.1.size : Int)
      · rw [decide_eq_true h2, decide_eq_true (show ((100 : Nat) : Int) < (p.2.1.size : Int) from h2)]; rfl
      · rw [decide_eq_false h2, decide_eq_false (show ¬ ((100 : Nat) : Int) < (p.2.1.size : Int) from h2)]
        exact gm_run m r (i + 1)
theorem gl_run : ∀ (l : List Rule) (i : Int), (∀ r ∈ l, r.2.2.2.2.1.length ≤ maxLen) → runI (fun i (x : Rule) (s : Unit) K => ((groatref20_Great x).bind fun r1 => (bif r1 then some (Sum.inl true) else K s))) (fun _ => some (Sum.inr ())) l i () = some (bif l.any greatR then Sum.inl true else Sum.inr ())
  | [], i, _ => rfl
  | r :: l, i, h => by
    simp only [runI, List.any_cons]
    rw [Great20_eq r (h r List.mem_cons_self), Option.bind_some]
    cases greatR r with
    | true => rfl
    | false => exact gl_run l (i + 1) fun q hq => h q (List.mem_cons_of_mem _ hq)
def greatM (m : Map) : Bool := decide ((300 : Int) < (m.1.length : Int)) || (decide ((300 : Int) < (m.2.1.length : Int)) || (!small 100 m.1 || m.2.1.any greatR))
theorem Great21_eq (m : Map) (h1 : m.1.length ≤ maxLen) (h2 : m.2.1.length ≤ maxLen) (h3 : ∀ r ∈ m.2.1, r.2.2.2.2.1.length ≤ maxLen) : groatref21_Great m = some (greatM m) := by
  unfold groatref21_Great groatref21_Great_s0 greatM
  cases decide ((300 : Int) < (m.1.length : Int)) with
  | true => rfl
  | false =>
    cases decide ((300 : Int) < (m.2.1.length : Int)) with
    | true => rfl
    | false =>
      simp only [cond_false, Bool.false_or]
      have e1 := loopJ pair0 m.1 h1 (fun i (p : Pair) (s : Unit) K => bif (decide (100 < ((p.1).size : Int))) then some (Sum.inl (true, m)) else (bif (decide (100 < ((p.2.1).size : Int))) then some (Sum.inl (true, m)) else K s)) (fun _ => some (Sum.inr m))
        (fun k i s => groatref21_Great_l0 k i m) (fun k i s h0 h1 => by
          show groatref21_Great_l0 (k + 1) i m = _
          conv => lhs; unfold groatref21_Great_l0 groatref21_Great_s1
          rw [decide_eq_true h1, cond_true, within_int h0 h1, within_int h0 h1]
          rfl) (fun k s => by
          show groatref21_Great_l0 (k + 1) m.1.length m = _
          conv => lhs; unfold groatref21_Great_l0 groatref21_Great_s1
          rw [decide_eq_false (by omega), cond_false]) ()
      rw [e1, gm_run]
      cases small 100 m.1 with
      | false => rfl
      | true =>
        simp only [cond_true, Option.bind_some, Sum.elim_inr, Bool.not_true, Bool.false_or]
        unfold groatref21_Great_s3
        have e2 := loopI rule0 m.2.1 h2 (fun i (x : Rule) (s : Unit) K => ((groatref20_Great x).bind fun r1 => (bif r1 then some (Sum.inl true) else K s))) (fun _ => some (Sum.inr ()))
          (fun k i s => groatref21_Great_l1 k i m) (fun k i s => rfl) ()
        dsimp only
        rw [e2, gl_run _ _ h3]
        cases m.2.1.any greatR <;> rfl
theorem greatM_ok {m : Map} (h : greatM m = false) : MapOk m := by
  unfold greatM at h
  simp only [Bool.or_eq_false_iff, decide_eq_false_iff_not, Bool.not_eq_false'] at h
  obtain ⟨h1, h2, h3, h4⟩ := h
  refine ⟨⟨by omega, small_sz (by omega) h3⟩, by omega, fun r hr => greatR_ok ?_⟩
  cases hg : greatR r with
  | false => rfl
  | true => rw [List.any_eq_true.2 ⟨r, hr, hg⟩] at h4; cases h4
theorem wf_great {m : Map} (h : Wf tMap m) : groatref21_Great m = some (greatM m) :=
  Great21_eq m h.1.1 h.2.1.1 fun r hr => (h.2.1.2 r hr).2.2.2.2.1.1
theorem great22_ok {m : Map} {a b : Schema} (h : Wf tMap m) : ∃ g, groatlaw22_great m [a, b] = some g ∧ (g = false → MapOk m ∧ a.2.2.1.length ≤ 200 ∧ b.2.2.1.length ≤ 200) := by
  unfold groatlaw22_great groatlaw22_great_s0
  rw [wf_great h, Option.bind_some]
  cases hg : greatM m with
  | true => exact ⟨true, rfl, fun h => by cases h⟩
  | false =>
    rw [cond_false, within_int (by omega) (by omega)]
    rw [show List.getD ([a, b] : List Schema) (0 : Int).toNat ((0 : Int), (0 : Int), ([] : List Spec), ()) = a from rfl, show List.getD ([a, b] : List Schema) (1 : Int).toNat ((0 : Int), (0 : Int), ([] : List Spec), ()) = b from rfl]
    by_cases h1 : (200 : Int) < (a.2.2.1.length : Int)
    · rw [decide_eq_true h1]; exact ⟨true, rfl, fun h => by cases h⟩
    · rw [decide_eq_false h1, cond_false, within_int (by omega) (by omega)]
      exact ⟨_, rfl, fun hf => ⟨greatM_ok hg, by omega, by have := of_decide_eq_false hf; omega⟩⟩
theorem two_of {s : List Schema} (h : s.length = 2) : ∃ a b, s = [a, b] := by
  match s, h with
  | [a, b], _ => exact ⟨a, b, rfl⟩
theorem pure_InvertChecks (m : Map) (s : List Schema) (hm : Wf tMap m) (hs : Wf (.arr 2 tSchema) s) : groatlaw22_InvertChecks m s = some true := by
  obtain ⟨a, b, rfl⟩ := two_of hs.1
  unfold groatlaw22_InvertChecks groatlaw22_InvertChecks_s0
  simp only [awake22, some_bind, Bool.not_true, cond_false]
  obtain ⟨g, hg, hok⟩ := great22_ok (a := a) (b := b) hm
  rw [hg, some_bind]
  cases g with
  | true => rfl
  | false =>
    obtain ⟨h, ha, hb⟩ := hok rfl
    have ga : List.getD ([a, b] : List Schema) (0 : Int).toNat ((0 : Int), (0 : Int), ([] : List Spec), ()) = a := rfl
    have gb : List.getD ([a, b] : List Schema) (1 : Int).toNat ((0 : Int), (0 : Int), ([] : List Spec), ()) = b := rfl
    have w0 : ∀ {R : Type} (x : Option R), within 0 2 x = x := fun x => within_int (by omega) (by omega)
    have w1 : ∀ {R : Type} (x : Option R), within 1 2 x = x := fun x => within_int (by omega) (by omega)
    have la : a.2.2.1.length ≤ maxLen := by rw [maxLen_eq]; omega
    have lb : b.2.2.1.length ≤ maxLen := by rw [maxLen_eq]; omega
    rw [cond_false]
    simp only [w0, w1, ga, gb]
    rw [Copy21_eq m h, some_bind, Copy13_eq a (by omega), some_bind, Copy13_eq b (by omega), some_bind, invCheck_eq m a b h la lb, some_bind, Check22_eq m a b h la lb, some_bind]
    rw [some_bind, Turn_eq m h, some_bind, Turn22_eq m h, some_bind, Same22_eq _ _ h.turn, some_bind]
    simp
end Groat
