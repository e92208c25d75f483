/- No condition. -/
import Derived.Test.YtmbobepkfagkgaaGreatDoorK2
import Derived.Laws.RangeString
set_option linter.unusedVariables false
set_option linter.unusedSimpArgs false
namespace Groat
open Go Go.Ref
def isDig (b : Int) : Bool := decide (48 ≤ b ∧ b ≤ 57)
def allD (l : List Int) : Bool := l.all isDig
theorem allD_cons (b : Int) (l : List Int) : allD (b :: l) = (isDig b && allD l) := rfl
theorem isDig_t {b : Int} (h : 48 ≤ b ∧ b ≤ 57) : isDig b = true := decide_eq_true h
theorem isDig_f {b : Int} (h : ¬ (48 ≤ b ∧ b ≤ 57)) : isDig b = false := decide_eq_false h
theorem bl_get {s : ByteArray} {j : Nat} (h : j < s.size) : (bl s).getD j 0 = ((s[j]'h).toNat : Int) := by
  rw [← bl_byteAt]
  unfold byteAt
  rw [dif_pos h]
theorem drop_bl {s : ByteArray} {j : Nat} (h : j < s.size) : (bl s).drop j = ((s[j]'h).toNat : Int) :: (bl s).drop (j + 1) := by
  have h' : j < (bl s).length := by rw [bl_length]; exact h
  rw [List.drop_eq_getElem_cons h']
  congr 1
  have := bl_get h
  rw [List.getD_eq_getElem?_getD, List.getElem?_eq_getElem h'] at this
  exact this
theorem decode_high (s : ByteArray) (pos : Nat) (h : pos < s.size) (ha : 128 ≤ (s[pos]'h).toNat) : 128 ≤ (Utf8.decode s pos).1 := by
  have e : s.get! (pos + 0) = s[pos]'h := by
    show s.get! pos = _
    simp [ByteArray.get!, getElem!_pos, h]
    rfl
  unfold Utf8.decode
  simp only [e]
  rw [if_neg (by omega)]
  have hre : 128 ≤ Utf8.runeError := by unfold Utf8.runeError; omega
  split
  · split
    · assumption
    · exact hre
  · split
    · split
      · rename_i hc
        simp only [Bool.and_eq_true, decide_eq_true_eq] at hc
        have := hc.1
        simp only
        omega
      · exact hre
    · split
      · split
        · rename_i hc
          simp only [Bool.and_eq_true, decide_eq_true_eq] at hc
          have := hc.1
          simp only
          omega
        · exact hre
      · exact hre
theorem all_loop (s : ByteArray) : ∀ (n j k : Nat), s.size - j ≤ n → j ≤ s.size → n < k → digits_All_l0 k (s, j) = some (bif allD ((bl s).drop j) then .inr () else .inl false)
  | n, j, 0, _, _, hk => by omega
  | n, j, k + 1, hn, hj, hk => by
    unfold digits_All_l0 digits_All_s1
    dsimp only
    by_cases hlt : j < s.size
    · rw [decide_eq_true hlt, cond_true, drop_bl hlt, allD_cons]
      by_cases h1 : (s[j]'hlt).toNat < 128
      · rw [decode_ascii s j hlt h1]
        dsimp only
        by_cases h2 : ((s[j]'hlt).toNat : Int) < 48
        · rw [decide_eq_true h2, cond_true, isDig_f (by omega)]; rfl
        · rw [decide_eq_false h2, cond_false]
          by_cases h3 : (57 : Int) < ((s[j]'hlt).toNat : Int)
          · rw [decide_eq_true h3, cond_true, isDig_f (by omega)]; rfl
          · obtain ⟨n, rfl⟩ : ∃ n', n = n' + 1 := ⟨n - 1, by omega⟩
            rw [decide_eq_false h3, cond_false, isDig_t (by omega), Bool.true_and, all_loop s n (j + 1) k (by omega) (by omega) (by omega)]
      · have hd := decode_high s j hlt (by omega)
        rw [decide_eq_false (by omega : ¬ ((Utf8.decode s j).1 : Int) < 48), cond_false, decide_eq_true (by omega : (57 : Int) < ((Utf8.decode s j).1 : Int)), cond_true, isDig_f (by omega)]; rfl
    · rw [decide_eq_false hlt, cond_false, List.drop_eq_nil_of_le (by rw [bl_length]; omega)]; rfl
theorem All_eq (s : ByteArray) (h : s.size ≤ maxLen) : digits_All s = some (allD (bl s)) := by
  unfold digits_All digits_All_s0
  dsimp only
  rw [maxLen_eq] at h
  rw [all_loop s s.size 0 FUEL (by omega) (by omega) (by rw [fuel_eq]; omega), List.drop_zero]
  cases allD (bl s) <;> rfl
theorem Digit01_eq (b : Int) : r01_Digit b = some (isDig b) := by
  unfold r01_Digit r01_Digit_s0 isDig
  by_cases h : (48 : Int) ≤ b
  · rw [decide_eq_true h, cond_true]; congr 1; apply decide_eq_decide.2; omega
  · rw [decide_eq_false h, cond_false]; congr 1; symm; apply decide_eq_false; omega
theorem all01_loop (s : ByteArray) (hs : s.size ≤ 9223372036854775807) : ∀ (n j k : Nat), s.size - j ≤ n → j ≤ s.size → n < k → r01_All_l0 k s (j : Int) = some (bif allD ((bl s).drop j) then .inr () else .inl false)
  | n, j, 0, _, _, hk => by omega
  | n, j, k + 1, hn, hj, hk => by
    unfold r01_All_l0 r01_All_s1
    dsimp only
    by_cases hlt : j < s.size
    · rw [decide_eq_true (by omega), cond_true, within_nat_lt hlt, Digit01_eq, Int.toNat_natCast, bl_byteAt, bl_get hlt, drop_bl hlt, allD_cons]
      rw [Option.bind_some]
      cases h1 : isDig ((s[j]'hlt).toNat : Int) with
      | false => rfl
      | true =>
        obtain ⟨n, rfl⟩ : ∃ n', n = n' + 1 := ⟨n - 1, by omega⟩
        simp only [Bool.not_true, cond_false, Bool.true_and]
        rw [i64_succ (by omega), all01_loop s hs n (j + 1) k (by omega) (by omega) (by omega)]
    · rw [decide_eq_false (by omega), cond_false, List.drop_eq_nil_of_le (by rw [bl_length]; omega)]; rfl
theorem All01_eq (s : ByteArray) (h : s.size ≤ maxLen) : r01_All s = some (allD (bl s)) := by
  unfold r01_All r01_All_s0
  dsimp only
  rw [maxLen_eq] at h
  have := all01_loop s h s.size 0 FUEL (by omega) (by omega) (by rw [fuel_eq]; omega)
  rw [show ((0 : Nat) : Int) = (0 : Int) from rfl] at this
  rw [this, List.drop_zero]
  cases allD (bl s) <;> rfl
def valD (l : List Int) (n : Int) : Int := l.foldl (fun n b => 10 * n + (b - 48)) n
theorem pow10 {k m : Nat} (h : k ≤ m) : 10 ^ k ≤ 10 ^ m := Nat.pow_le_pow_right (by decide) h
theorem pow10s (k : Nat) : ((10 ^ (k + 1) : Nat) : Int) = 10 * ((10 ^ k : Nat) : Int) := by rw [Nat.pow_succ]; omega
theorem pow17 : (10 : Nat) ^ 17 = 100000000000000000 := by decide
def getD' (l : List Int) : Int × Bool := if 1 ≤ l.length ∧ l.length ≤ 18 ∧ allD l = true then (valD l 0, true) else (0, false)
theorem get01_loop (s : ByteArray) (hs : s.size ≤ 18) (hd : allD (bl s) = true) : ∀ (n j k : Nat) (t : Int), s.size - j ≤ n → j ≤ s.size → n < k → 0 ≤ t → t < ((10 ^ j : Nat) : Int) → r01_Get_l0 k s t (j : Int) = some (valD ((bl s).drop j) t)
  | n, j, 0, t, _, _, hk, _, _ => by omega
  | n, j, k + 1, t, hn, hj, hk, h0, h1 => by
    unfold r01_Get_l0 r01_Get_s1
    dsimp only
    by_cases hlt : j < s.size
    · have hj' : isDig ((s[j]'hlt).toNat : Int) = true := by
        have := List.all_eq_true.1 hd ((bl s).getD j 0) (by
          rw [List.getD_eq_getElem?_getD, List.getElem?_eq_getElem (by rw [bl_length]; exact hlt)]
          exact List.getElem_mem _)
        rw [bl_get hlt] at this
        exact this
      simp only [isDig, decide_eq_true_eq] at hj'
      rw [decide_eq_true (by omega), cond_true, within_nat_lt hlt, Int.toNat_natCast, bl_byteAt, bl_get hlt, drop_bl hlt]
      have hp1 := pow10s j
      obtain ⟨n, rfl⟩ : ∃ n', n = n' + 1 := ⟨n - 1, by omega⟩
      have ht : t < 100000000000000000 := by
        have := pow10 (show j ≤ 17 by omega)
        rw [pow17] at this
        omega
      have a1 : IntKind.i64.wrap (10 * t) = 10 * t := i64_id (by omega) (by omega)
      have a2 : IntKind.i64.wrap ((s[j]'hlt).toNat : Int) = ((s[j]'hlt).toNat : Int) := i64_id (by omega) (by omega)
      have a3 : IntKind.i64.wrap (10 * t + ((s[j]'hlt).toNat : Int)) = 10 * t + ((s[j]'hlt).toNat : Int) := i64_id (by omega) (by omega)
      rw [a1, a2, a3, i64_id (by omega) (by omega), i64_succ (by omega), get01_loop s hs hd n (j + 1) k _ (by omega) (by omega) (by omega) (by omega) (by omega)]
      simp only [valD, List.foldl_cons]
      congr 2
      omega
    · rw [decide_eq_false (by omega), cond_false, List.drop_eq_nil_of_le (by rw [bl_length]; omega)]; rfl
theorem Get01_eq (s : ByteArray) (h : s.size ≤ maxLen) : r01_Get s = some (getD' (bl s)) := by
  unfold r01_Get r01_Get_s0 getD'
  dsimp only
  rw [bl_length]
  by_cases h0 : (s.size : Int) < 1
  · rw [decide_eq_true h0, cond_true, if_neg (by omega)]
  · rw [decide_eq_false h0, cond_false]
    by_cases h1 : (18 : Int) < (s.size : Int)
    · rw [decide_eq_true h1, cond_true, if_neg (by omega)]
    · rw [decide_eq_false h1, cond_false, All01_eq s h, Option.bind_some]
      cases hd : allD (bl s) with
      | false => rw [if_neg (by simp)]; rfl
      | true =>
        rw [if_pos ⟨by omega, by omega, rfl⟩]
        simp only [Bool.not_true, cond_false]
        have := get01_loop s (by omega) hd s.size 0 FUEL 0 (by omega) (by omega) (by rw [fuel_eq]; omega) (by omega) (by decide)
        rw [show ((0 : Nat) : Int) = (0 : Int) from rfl] at this
        rw [this, List.drop_zero, Option.bind_some]
        rfl
end Groat
set_option linter.unusedVariables false
set_option linter.unusedSimpArgs false
namespace Groat
open Go Go.Ref
def vres' (v : Int) : Sum Unit Int := if v = 0 then .inl () else .inr v
theorem vals20_run (x y : Spec) : ∀ (l : List Pair) (i : Int), (∀ p ∈ l, p.1.size ≤ 1099511627776 ∧ p.2.1.size ≤ 1099511627776) →
    runI (fun i (p : Pair) (s : Unit) K => ((r11_Value x p.1).bind fun r2 => (bif (!decide (r2 = 0)) then some (Sum.inr r2) else ((r11_Value y p.2.1).bind fun r3 => (bif (!decide (r3 = 0)) then some (Sum.inr r3) else K s))))) (fun _ => some (Sum.inl ())) l i () = some (vres' (valsC l x y))
  | [], i, _ => rfl
  | p :: r, i, h => by
    obtain ⟨h1, h2⟩ := h p List.mem_cons_self
    simp only [runI, valsC]
    rw [Value11_eq x p.1 h1, Option.bind_some]
    by_cases z1 : valC x p.1 = 0
    · rw [decide_eq_true z1]
      simp only [Bool.not_true, cond_false]
      rw [Value11_eq y p.2.1 h2, Option.bind_some]
      by_cases z2 : valC y p.2.1 = 0
      · rw [decide_eq_true z2]
        simp only [Bool.not_true, cond_false]
        exact vals20_run x y r (i + 1) fun q hq => h q (List.mem_cons_of_mem _ hq)
      · rw [decide_eq_false z2]
        simp only [Bool.not_false, cond_true, vres', if_neg z2]
    · rw [decide_eq_false z1]
      simp only [Bool.not_false, cond_true, vres', if_neg z1]
theorem check20_loop (r : Rule) (a b : Schema) (h : RuleOk r) (i k : Int) (hi0 : 0 ≤ i) (hi : i < a.2.2.1.length) (hk0 : 0 ≤ k) (hk : k < b.2.2.1.length) :
    r20_Check_l0 FUEL i k 0 r a b = some (vres' (valsC r.2.2.2.2.1 (a.2.2.1.getD i.toNat spec0) (b.2.2.1.getD k.toNat spec0))) := by
  have hl := h.pairs.len
  have := loopJ pair0 r.2.2.2.2.1 (by rw [maxLen_eq]; omega) (fun j (p : Pair) (s : Unit) K => ((r11_Value (a.2.2.1.getD i.toNat spec0) p.1).bind fun r2 => (bif (!decide (r2 = 0)) then some (Sum.inr r2) else ((r11_Value (b.2.2.1.getD k.toNat spec0) p.2.1).bind fun r3 => (bif (!decide (r3 = 0)) then some (Sum.inr r3) else K s))))) (fun _ => some (Sum.inl ()))
    (fun f j s => r20_Check_l0 f i k j r a b) (fun f j s h0 h1 => by
      show r20_Check_l0 (f + 1) i k j r a b = _
      conv => lhs; unfold r20_Check_l0 r20_Check_s13 r20_Check_s14 r20_Check_s17 r20_Check_s18
      have wi : ∀ {R : Type} (x : Option R), within i a.2.2.1.length x = x := fun x => within_int hi0 hi
      have wk : ∀ {R : Type} (x : Option R), within k b.2.2.1.length x = x := fun x => within_int hk0 hk
      have wj : ∀ {R : Type} (x : Option R), within j r.2.2.2.2.1.length x = x := fun x => within_int h0 h1
      rw [decide_eq_true h1]
      simp only [cond_true, wi, wk, wj]
      rfl) (fun f s => by
      show r20_Check_l0 (f + 1) i k r.2.2.2.2.1.length r a b = _
      conv => lhs; unfold r20_Check_l0 r20_Check_s13
      rw [decide_eq_false (by omega), cond_false]) ()
  rw [this]
  exact vals20_run _ _ _ 0 h.pairs.sz
theorem Check20_eq (r : Rule) (a b : Schema) (h : RuleOk r) (ha : a.2.2.1.length ≤ maxLen) (hb : b.2.2.1.length ≤ maxLen) : r20_Check r a b = some (ruleC r a b) := by
  unfold r20_Check r20_Check_s0
  have h0 : ∀ t, r20_Check_j0 t r a b = bif t then some 1 else r20_Check_j1 r a b := fun t => by cases t <;> rfl
  simp only [h0]
  unfold ruleC
  by_cases c1 : r.1 < 1
  · rw [decide_eq_true c1]; rfl
  by_cases c2 : (5 : Int) < r.1
  · rw [decide_eq_false c1, decide_eq_true c2]; rfl
  rw [decide_eq_false c1, decide_eq_false c2]
  simp only [cond_false, Bool.or_false]
  -- the ends
  have e2 : ∀ i k t, r20_Check_j2 i k t r a b = bif t then some 9 else r20_Check_j3 i k r a b := fun i k t => by cases t <;> rfl
  have e4 : ∀ i k t, r20_Check_j4 i k t r a b = bif t then some 9 else r20_Check_j5 i k r a b := fun i k t => by cases t <;> rfl
  have e6 : ∀ i k t, r20_Check_j6 i k t r a b = bif t then some 3 else r20_Check_j7 i k r a b := fun i k t => by cases t <;> rfl
  have e9 : ∀ t, r20_Check_j9 t = some (bif t then 6 else 0) := fun t => by cases t <;> rfl
  have hi := idx_cases a r.2.1
  have hk := idx_cases b r.2.2.1
  have ei : decide (idxS a.2.2.1 r.2.1 0 < 0) = !hasS a r.2.1 := by
    rcases hi with ⟨h1, h2, _⟩ | ⟨h1, _, h2, _⟩
    · rw [h1, h2]; rfl
    · rw [h2, decide_eq_false (by omega)]; rfl
  have ek : decide (idxS b.2.2.1 r.2.2.1 0 < 0) = !hasS b r.2.2.1 := by
    rcases hk with ⟨h1, h2, _⟩ | ⟨h1, _, h2, _⟩
    · rw [h1, h2]; rfl
    · rw [h2, decide_eq_false (by omega)]; rfl
  unfold r20_Check_j1 r20_Check_s2
  rw [Find13_eq a _ ha, Option.bind_some, Find13_eq b _ hb, Option.bind_some]
  generalize hii : idxS a.2.2.1 r.2.1 0 = i at *
  generalize hkk : idxS b.2.2.1 r.2.2.1 0 = k at *
  have s3 : r20_Check_j3 i k r a b = bif (bif decide (r.1 = 2) then !decide (r.2.2.1 = 0) else !hasS b r.2.2.1) then some 9 else r20_Check_j5 i k r a b := by
    unfold r20_Check_j3 r20_Check_s4
    simp only [e4, ek]
    generalize decide (r.1 = 2) = k2
    generalize decide (r.2.2.1 = 0) = z
    generalize hasS b r.2.2.1 = hh
    cases k2 <;> cases z <;> cases hh <;> rfl
  have s1 : (bif decide (r.1 = 3) then bif !decide (r.2.1 = 0) then r20_Check_j2 i k true r a b else bif !decide (r.1 = 3) then r20_Check_j2 i k (decide (i < 0)) r a b else r20_Check_j2 i k false r a b
      else bif !decide (r.1 = 3) then r20_Check_j2 i k (decide (i < 0)) r a b else r20_Check_j2 i k false r a b) = bif endsE r a b then some 9 else r20_Check_j5 i k r a b := by
    simp only [e2, s3, ei]
    unfold endsE
    generalize decide (r.1 = 3) = k3
    generalize decide (r.2.1 = 0) = z
    generalize hasS a r.2.1 = hh
    generalize (bif decide (r.1 = 2) then !decide (r.2.2.1 = 0) else !hasS b r.2.2.1) = w
    cases k3 <;> cases z <;> cases hh <;> cases w <;> rfl
  have s5 : r20_Check_j5 i k r a b = bif textE r then some 3 else r20_Check_j7 i k r a b := by
    unfold r20_Check_j5 r20_Check_s6 textE
    simp only [e6]
    generalize decide (r.2.2.2.1 = bs []) = t
    generalize decide ((0 : Int) < (r.2.2.2.2.1.length : Int)) = p
    generalize decide (r.1 = 3) = k3
    generalize decide (r.1 = 5) = k5
    cases t <;> cases p <;> cases k3 <;> cases k5 <;> rfl
  refine Eq.trans s1 ?_
  cases hE : endsE r a b with
  | true => rfl
  | false =>
    rw [cond_false, cond_false, s5]
    cases textE r with
    | true => rfl
    | false =>
      rw [cond_false, cond_false]
      unfold r20_Check_j7 r20_Check_s8 kindC
      -- which ends are there
      have g1 : r.1 = 1 ∨ r.1 = 4 ∨ r.1 = 5 → hasS a r.2.1 = true := fun hr => by
        unfold endsE at hE
        rw [decide_eq_false (by omega : ¬ r.1 = 3)] at hE
        cases hh : hasS a r.2.1 with
        | true => rfl
        | false => rw [hh] at hE; simp at hE
      have g2 : r.1 ≠ 2 → hasS b r.2.2.1 = true := fun hr => by
        unfold endsE at hE
        rw [decide_eq_false hr] at hE
        cases hh : hasS b r.2.2.1 with
        | true => rfl
        | false => rw [hh] at hE; simp at hE
      have hA : hasS a r.2.1 = true → 0 ≤ i ∧ i < a.2.2.1.length ∧ a.2.2.1.getD i.toNat spec0 = getS a r.2.1 := fun hh => by
        rcases hi with ⟨_, h2, _⟩ | ⟨h1, h2, _, h3⟩
        · rw [h2] at hh; cases hh
        · exact ⟨h1, h2, h3⟩
      have hB : hasS b r.2.2.1 = true → 0 ≤ k ∧ k < b.2.2.1.length ∧ b.2.2.1.getD k.toNat spec0 = getS b r.2.2.1 := fun hh => by
        rcases hk with ⟨_, h2, _⟩ | ⟨h1, h2, _, h3⟩
        · rw [h2] at hh; cases hh
        · exact ⟨h1, h2, h3⟩
      by_cases k1 : r.1 = 1
      · obtain ⟨a1, a2, a3⟩ := hA (g1 (.inl k1))
        obtain ⟨b1, b2, b3⟩ := hB (g2 (by omega))
        rw [decide_eq_true k1, cond_true, cond_true, within_int b1 b2, within_int a1 a2, a3, b3, Wider11_eq, Option.bind_some]
        cases widS (getS b r.2.2.1) (getS a r.2.1) <;> rfl
      rw [decide_eq_false k1, cond_false, cond_false]
      by_cases k3 : r.1 = 3
      · obtain ⟨b1, b2, b3⟩ := hB (g2 (by omega))
        rw [decide_eq_true k3, cond_true, cond_true, within_int b1 b2, b3, Value11_eq _ _ h.text]; rfl
      rw [decide_eq_false k3, cond_false, cond_false]
      by_cases k4 : r.1 = 4
      · obtain ⟨a1, a2, a3⟩ := hA (g1 (.inr (.inl k4)))
        obtain ⟨b1, b2, b3⟩ := hB (g2 (by omega))
        rw [decide_eq_true k4, cond_true, cond_true, within_int a1 a2, within_int b1 b2]
        simp only [a3, b3, e9]
        unfold padS
        generalize decide ((getS a r.2.1).2.1 = 1) = d1
        generalize decide ((getS a r.2.1).2.2.1 = 1) = d2
        generalize decide ((getS b r.2.2.1).2.1 = 1) = d3
        generalize decide ((getS b r.2.2.1).2.2.1 = 1) = d4
        cases d1 <;> cases d2 <;> cases d3 <;> cases d4 <;> rfl
      rw [decide_eq_false k4, cond_false, cond_false]
      by_cases k5 : r.1 = 5
      · obtain ⟨a1, a2, a3⟩ := hA (g1 (.inr (.inr k5)))
        obtain ⟨b1, b2, b3⟩ := hB (g2 (by omega))
        have e10 : ∀ t, r20_Check_j10 i k t r a b = bif t then some 15 else r20_Check_j11 i k r a b := fun t => by cases t <;> rfl
        have e11 : r20_Check_j11 i k r a b = some (valsC r.2.2.2.2.1 (getS a r.2.1) (getS b r.2.2.1)) := by
          unfold r20_Check_j11 r20_Check_s12
          dsimp only
          rw [check20_loop r a b h i k a1 a2 b1 b2, Option.bind_some, a3, b3]
          unfold vres'
          by_cases z : valsC r.2.2.2.2.1 (getS a r.2.1) (getS b r.2.2.1) = 0
          · rw [if_pos z, z]; rfl
          · rw [if_neg z]; rfl
        have hl := h.pairs.len
        rw [decide_eq_true k5, cond_true, cond_true, Check19_eq _ (by rw [maxLen_eq]; omega), Option.bind_some]
        simp only [e10, e11]
        unfold tableR
        generalize (!decide ((tableC r.2.2.2.2.1).1 = 0)) = d1
        generalize decide ((r.2.2.2.2.1.length : Int) = 0) = d2
        cases d1 <;> cases d2 <;> rfl
      · rw [decide_eq_false k5]; rfl
end Groat
set_option linter.unusedVariables false
set_option linter.unusedSimpArgs false
namespace Groat
open Go Go.Ref
def rightM (m : ByteArray) : Bool := decide ((m.size : Int) = 4) && allD (bl m)
theorem rightM_iff {m : ByteArray} : rightM m = true ↔ m.size = 4 ∧ allD (bl m) = true := by
  unfold rightM
  rw [Bool.and_eq_true, decide_eq_true_eq]
  constructor <;> intro h <;> exact ⟨by omega, h.2⟩
theorem mtiRight_eq (m : ByteArray) (h : m.size ≤ maxLen) : mti_Right m = some (rightM m) := by
  unfold mti_Right mti_Right_s0 rightM
  cases decide ((m.size : Int) = 4) with
  | false => rfl
  | true => rw [cond_true, All_eq m h]; rfl
theorem Right15_eq (m : ByteArray) (h : m.size ≤ maxLen) : r15_Right m = some (rightM m) := by
  unfold r15_Right r15_Right_s0 rightM
  cases decide ((m.size : Int) = 4) with
  | false => rfl
  | true => rw [cond_true, All01_eq m h]; rfl
theorem dig_at {m : ByteArray} (h : rightM m = true) (i : Nat) (hi : i < 4) : 48 ≤ byteAt m i ∧ byteAt m i ≤ 57 := by
  obtain ⟨h1, h2⟩ := rightM_iff.1 h
  have hl : i < (bl m).length := by rw [bl_length]; omega
  have := List.all_eq_true.1 h2 _ (List.getElem_mem hl)
  rw [bl_byteAt, List.getD_eq_getElem?_getD, List.getElem?_eq_getElem hl]
  exact of_decide_eq_true this
def verM (m : ByteArray) : Int := bif rightM m then byteAt m 0 - 48 else 0
def reqM (m : ByteArray) : Bool := rightM m && (decide (byteAt m 2 = 48) || decide (byteAt m 2 = 50))
theorem Version_eq (m : ByteArray) (h : m.size ≤ maxLen) : mti_Version m = some (verM m, rightM m) := by
  unfold mti_Version mti_Version_s0 verM
  rw [mtiRight_eq m h, Option.bind_some]
  cases hr : rightM m with
  | false => rfl
  | true =>
    obtain ⟨h1, _⟩ := rightM_iff.1 hr
    have := dig_at hr 0 (by omega)
    simp only [Bool.not_true, cond_false, cond_true]
    rw [within_int (by omega) (by omega), show (0 : Int).toNat = 0 from rfl, u8_id (by omega) (by omega), i64_id (by omega) (by omega)]
theorem Request_eq (m : ByteArray) (h : m.size ≤ maxLen) : mti_Request m = some (reqM m) := by
  unfold mti_Request mti_Request_s0 reqM
  rw [mtiRight_eq m h, Option.bind_some]
  cases hr : rightM m with
  | false => rfl
  | true =>
    obtain ⟨h1, _⟩ := rightM_iff.1 hr
    rw [cond_true, within_int (by omega) (by omega), within_int (by omega) (by omega), show (2 : Int).toNat = 2 from rfl]
    cases decide (byteAt m 2 = 48) <;> rfl
theorem Request15_eq (m : ByteArray) (h : m.size ≤ maxLen) : r15_Request m = some (reqM m) := by
  unfold r15_Request r15_Request_s0 reqM
  rw [Get01_eq m h, Option.bind_some]
  unfold getD'
  by_cases h4 : m.size = 4
  · cases hd : allD (bl m) with
    | false =>
      rw [if_neg (by simp)]
      have : rightM m = false := by unfold rightM; rw [hd, Bool.and_false]
      rw [this]; rfl
    | true =>
      have hr : rightM m = true := rightM_iff.2 ⟨h4, hd⟩
      rw [if_pos ⟨by rw [bl_length]; omega, by rw [bl_length]; omega, rfl⟩, hr]
      dsimp only
      rw [cond_true, decide_eq_true (by omega), cond_true, Bool.true_and]
      have hl : (bl m).length = 4 := by rw [bl_length, h4]
      obtain ⟨d0, d1, d2, d3, hb⟩ : ∃ d0 d1 d2 d3, bl m = [d0, d1, d2, d3] := by
        match hm : bl m, hl with
        | [d0, d1, d2, d3], _ => exact ⟨d0, d1, d2, d3, rfl⟩
      have h0 := dig_at hr 0 (by omega)
      have h1 := dig_at hr 1 (by omega)
      have h2 := dig_at hr 2 (by omega)
      have h3 := dig_at hr 3 (by omega)
      rw [bl_byteAt, hb] at h0 h1 h2 h3
      rw [bl_byteAt, hb]
      simp only [List.getD_cons_zero, List.getD_cons_succ] at h0 h1 h2 h3 ⊢
      have hv : valD [d0, d1, d2, d3] 0 = 1000 * (d0 - 48) + 100 * (d1 - 48) + 10 * (d2 - 48) + (d3 - 48) := by
        simp only [valD, List.foldl_cons, List.foldl_nil]; omega
      have hq : Int.tmod (IntKind.i64.wrap (Int.tdiv (valD [d0, d1, d2, d3] 0) 10)) 10 = d2 - 48 := by
        rw [hv, Int.tdiv_eq_ediv_of_nonneg (by omega), i64_id (by omega) (by omega), Int.tmod_eq_emod_of_nonneg (by omega)]
        omega
      rw [hq]
      by_cases e1 : d2 = 48
      · rw [decide_eq_true e1, decide_eq_true (by omega : d2 - 48 = 0)]; rfl
      · rw [decide_eq_false e1, decide_eq_false (by omega : ¬ d2 - 48 = 0), cond_false, Bool.false_or]
        congr 1
        exact decide_eq_decide.2 (by omega)
  · have : rightM m = false := by
      unfold rightM
      rw [decide_eq_false (by omega), Bool.false_and]
    rw [this]
    cases (if 1 ≤ (bl m).length ∧ (bl m).length ≤ 18 ∧ allD (bl m) = true then (valD (bl m) 0, true) else ((0 : Int), false)).2 with
    | false => rfl
    | true => rw [cond_true, decide_eq_false (by omega)]; rfl
def versM (m : ByteArray) (v : Int) : Bool := rightM m && decide (byteAt m 0 - 48 = v)
theorem version21_eq (m : ByteArray) (v : Int) (h : m.size ≤ maxLen) : r21_version m v = some (versM m v) := by
  unfold r21_version r21_version_s0 versM
  rw [Right15_eq m h, Option.bind_some]
  cases hr : rightM m with
  | false => rfl
  | true =>
    obtain ⟨h1, _⟩ := rightM_iff.1 hr
    have := dig_at hr 0 (by omega)
    have w1 : IntKind.i64.wrap (byteAt m 0) = byteAt m 0 := i64_id (by omega) (by omega)
    rw [cond_true, within_int (by omega) (by omega), show (0 : Int).toNat = 0 from rfl, w1, i64_id (by omega) (by omega)]
    rfl
def typedP (p : Pair) (a b : Schema) : Bool := versM p.1 a.2.1 && (versM p.2.1 b.2.1 && (reqM p.1 == reqM p.2.1))
theorem typed_eq (p : Pair) (a b : Schema) (h1 : p.1.size ≤ maxLen) (h2 : p.2.1.size ≤ maxLen) : xlate_typed p a b = some (typedP p a b) := by
  unfold xlate_typed xlate_typed_s0 typedP versM
  rw [Version_eq _ h1, Version_eq _ h2, Request_eq _ h1, Request_eq _ h2]
  simp only [Option.bind_some]
  unfold verM
  cases rightM p.1 with
  | false => rfl
  | true =>
    cases rightM p.2.1 with
    | false => simp
    | true =>
      simp only [cond_true, Bool.true_and]
      cases decide (byteAt p.1 0 - 48 = a.2.1) with
      | false => rfl
      | true =>
        cases decide (byteAt p.2.1 0 - 48 = b.2.1) with
        | false => rfl
        | true => rfl
end Groat
set_option linter.unusedVariables false
set_option linter.unusedSimpArgs false
namespace Groat
open Go Go.Ref
abbrev Msg := ByteArray × List Val × Unit
abbrev Fault := Int × Int × Unit
abbrev vnil : Val := (0, bs [], ())
abbrev fault0 : Fault := (0, 0, ())
structure MsgOk (m : Msg) : Prop where
  mti : m.1.size ≤ 9223372036854775807
  len : m.2.1.length ≤ 1000000
  txt : ∀ v ∈ m.2.1, v.2.1.size ≤ 1099511627776
def dropV (l : List Val) (no : Int) : List Val := l.filter fun v => !decide (v.1 = no)
theorem dropV_len (l : List Val) (no : Int) : (dropV l no).length ≤ l.length := List.length_filter_le _ _
theorem without_run (no : Int) (fin : Msg × Msg → Option (Msg × Msg)) : ∀ (l : List Val) (i : Int) (s : Msg × Msg), s.2.2.1.length + l.length ≤ 1000000000 →
    runI (fun i (x : Val) (s : Msg × Msg) K => (bif (!(decide (x.1 = no))) then (bif (decide ((s.2.2.1.length + (List.length ([x] : List Val))) * 24 ≤ 140737488355328)) then K (s.1, (s.2.1, (s.2.2.1 ++ ([x] : List Val)), ())) else none) else K s)) fin l i s = fin (s.1, (s.2.1, s.2.2.1 ++ dropV l no, ()))
  | [], i, s, _ => by
    show fin s = _
    simp [dropV]
  | x :: r, i, s, h => by
    simp only [List.length_cons] at h
    rw [runI]
    by_cases hx : x.1 = no
    · rw [decide_eq_true hx, Bool.not_true, cond_false]
      refine (without_run no fin r (i + 1) s (by omega)).trans ?_
      simp [dropV, hx]
    · rw [decide_eq_false hx, Bool.not_false, cond_true, decide_eq_true (by simp only [List.length_singleton]; omega), cond_true]
      refine (without_run no fin r (i + 1) (s.1, (s.2.1, s.2.2.1 ++ [x], ())) (by simp only [List.length_append, List.length_singleton]; omega)).trans ?_
      simp [dropV, hx]
theorem MWithout_eq (m : Msg) (no : Int) (h : m.2.1.length ≤ 1000000) : msg_Without m no = some (m.1, dropV m.2.1 no, ()) := by
  unfold msg_Without msg_Without_s0
  dsimp only
  have := loopI vnil m.2.1 (by rw [maxLen_eq]; omega) (fun i (x : Val) (s : Msg × Msg) K => (bif (!(decide (x.1 = no))) then (bif (decide ((s.2.2.1.length + (List.length ([x] : List Val))) * 24 ≤ 140737488355328)) then K (s.1, (s.2.1, (s.2.2.1 ++ ([x] : List Val)), ())) else none) else K s)) (fun s => some s)
    (fun k i s => msg_Without_l0 k no m.2.1 (m.2.1.length : Int) i s.1 s.2) (fun k i s => rfl) ((bs [], [], ()), (m.1, [], ()))
  rw [this, without_run no _ _ _ _ (by simp; omega)]
  rfl
def idxGt (no : Int) : List Val → Int → Int
  | [], _ => -1
  | x :: r, i => if no < x.1 then i else idxGt no r (i + 1)
theorem idxGt_cases (no : Int) : ∀ (l : List Val) (i : Int), 0 ≤ i → (idxGt no l i = -1 ∧ ∀ x ∈ l, x.1 ≤ no) ∨ (i ≤ idxGt no l i ∧ idxGt no l i < i + l.length)
  | [], i, h => .inl ⟨rfl, fun x hx => by cases hx⟩
  | x :: r, i, h => by
    unfold idxGt
    by_cases hx : no < x.1
    · rw [if_pos hx]; right; simp only [List.length_cons]; omega
    · rw [if_neg hx]
      rcases idxGt_cases no r (i + 1) (by omega) with ⟨h1, h2⟩ | h1
      · left
        refine ⟨h1, fun y hy => ?_⟩
        rcases List.mem_cons.1 hy with rfl | hy
        · omega
        · exact h2 y hy
      · right; simp only [List.length_cons]; omega
def exV (r no : Int) : Sum (Int × Int) Int := bif decide (r < 0) then .inr no else .inl (r, no)
theorem index_run (no : Int) : ∀ (l : List Val) (i : Int), 0 ≤ i → runI (fun i (x : Val) (s : Int) K => ((msg_With_1 x s).bind fun r1 => (bif r1.1 then some (Sum.inl (i, r1.2)) else K r1.2))) (fun s => some (Sum.inr s)) l i no = some (exV (idxGt no l i) no)
  | [], i, h => rfl
  | x :: r, i, h => by
    rw [runI, idxGt]
    show (bif decide (no < x.1) then some (Sum.inl (i, no)) else runI _ _ r (i + 1) no) = _
    by_cases hx : no < x.1
    · rw [decide_eq_true hx, cond_true, if_pos hx]
      unfold exV
      rw [decide_eq_false (by omega)]; rfl
    · rw [decide_eq_false hx, cond_false, if_neg hx]
      exact index_run no r (i + 1) (by omega)
theorem IndexGt_eq (l : List Val) (no : Int) (h : l.length ≤ 1000000) : slices_IndexFunc_api_Value_api_Value_at_msg_With_1 l no = some (idxGt no l 0, no) := by
  unfold slices_IndexFunc_api_Value_api_Value_at_msg_With_1 slices_IndexFunc_api_Value_api_Value_at_msg_With_1_s0
  dsimp only
  have := loopI vnil l (by rw [maxLen_eq]; omega) (fun i (x : Val) (s : Int) K => ((msg_With_1 x s).bind fun r1 => (bif r1.1 then some (Sum.inl (i, r1.2)) else K r1.2))) (fun s => some (Sum.inr s))
    (fun k i s => slices_IndexFunc_api_Value_api_Value_at_msg_With_1_l0 k l (l.length : Int) i s) (fun k i s => rfl) no
  rw [this, index_run no l 0 (Int.le_refl _), some_bind]
  unfold exV
  rcases idxGt_cases no l 0 (Int.le_refl _) with ⟨h1, _⟩ | h1
  · rw [h1]; rfl
  · rw [decide_eq_false (by omega)]; rfl
theorem putL_zero (old : List Val) (at_ : Nat) (v d : Val) (h : at_ ≤ old.length) :
    putL (List.set (putL (List.replicate (old.length + 1) d) (List.take (old.length + 1) (List.drop 0 (List.take at_ old))) 0) at_ v) (List.take (old.length + 1 - (at_ + 1)) (List.drop at_ (List.take old.length old))) (at_ + 1) = old.take at_ ++ v :: old.drop at_ := by
  have e1 : List.take (old.length + 1) (List.drop 0 (List.take at_ old)) = old.take at_ := by
    rw [List.drop_zero, List.take_take, Nat.min_eq_right (by omega)]
  have e2 : List.take (old.length + 1 - (at_ + 1)) (List.drop at_ (List.take old.length old)) = old.drop at_ := by
    rw [List.take_length, List.take_of_length_le (by rw [List.length_drop]; omega)]
  rw [e1, e2]
  have hl : (old.take at_).length = at_ := by rw [List.length_take]; omega
  have e3 : putL (List.replicate (old.length + 1) d) (old.take at_) 0 = old.take at_ ++ List.replicate (old.length + 1 - at_) d := by
    unfold putL
    rw [List.take_zero, List.nil_append, hl, Nat.zero_add, List.drop_replicate]
  obtain ⟨n, hn⟩ : ∃ n, old.length + 1 - at_ = n + 1 := ⟨old.length - at_, by omega⟩
  have e4 : List.set (old.take at_ ++ List.replicate (old.length + 1 - at_) d) at_ v = old.take at_ ++ v :: List.replicate n d := by
    rw [hn, List.replicate_succ, List.set_append, if_neg (by omega), hl, Nat.sub_self, List.set_cons_zero]
  rw [e3, e4]
  unfold putL
  have e5 : (old.take at_ ++ v :: List.replicate n d).take (at_ + 1) = old.take at_ ++ [v] := by
    rw [List.take_append, hl, show at_ + 1 - at_ = 1 by omega, List.take_of_length_le (by omega)]; rfl
  have e6 : (old.take at_ ++ v :: List.replicate n d).drop (at_ + 1 + (old.drop at_).length) = [] := by
    apply List.drop_eq_nil_of_le
    rw [List.length_append, hl, List.length_cons, List.length_replicate, List.length_drop]
    omega
  rw [e5, e6, List.append_nil, List.append_assoc]
  rfl
theorem with_tail (q t : ByteArray) (no : Int) (old : List Val) (at_ : Nat) (h : at_ ≤ old.length) (hl : old.length ≤ 1000000) :
    (bif (decide ((IntKind.i64.wrap (((List.length old) : Int) + (1 : Int))) = (IntKind.i64.wrap (((List.length old) : Int) + (1 : Int))))) then (bif (decide ((0 : Int) ≤ (IntKind.i64.wrap (((List.length old) : Int) + (1 : Int))))) then (bif (decide ((IntKind.i64.wrap (((List.length old) : Int) + (1 : Int))) * 24 ≤ 140737488355328)) then (bif (decide ((0 : Int) ≤ ((at_ : Nat) : Int))) then (bif (decide (((at_ : Nat) : Int) ≤ (((List.length old) : Nat) : Int))) then (bif (Nat.beq ((IntKind.i64.wrap (((List.length old) : Int) + (1 : Int)))).toNat (List.length (List.replicate ((IntKind.i64.wrap (((List.length old) : Int) + (1 : Int)))).toNat ((0 : Int), (bs []), ())))) then (within ((at_ : Nat) : Int) ((IntKind.i64.wrap (((List.length old) : Int) + (1 : Int)))).toNat (bif (Nat.ble ((((at_ : Nat) : Int)).toNat + 1) (List.length (putL (List.replicate ((IntKind.i64.wrap (((List.length old) : Int) + (1 : Int)))).toNat ((0 : Int), (bs []), ())) (List.take ((IntKind.i64.wrap (((List.length old) : Int) + (1 : Int)))).toNat (List.drop 0 (List.take (((at_ : Nat) : Int)).toNat old))) 0))) then (bif (decide ((0 : Int) ≤ (IntKind.i64.wrap (((at_ : Nat) : Int) + (1 : Int))))) then (bif (decide ((IntKind.i64.wrap (((at_ : Nat) : Int) + (1 : Int))) ≤ ((((IntKind.i64.wrap (((List.length old) : Int) + (1 : Int)))).toNat : Nat) : Int))) then (bif (decide ((0 : Int) ≤ ((at_ : Nat) : Int))) then (bif (decide (((at_ : Nat) : Int) ≤ (((List.length old) : Nat) : Int))) then (bif (Nat.beq ((IntKind.i64.wrap (((List.length old) : Int) + (1 : Int)))).toNat (List.length (List.set (putL (List.replicate ((IntKind.i64.wrap (((List.length old) : Int) + (1 : Int)))).toNat ((0 : Int), (bs []), ())) (List.take ((IntKind.i64.wrap (((List.length old) : Int) + (1 : Int)))).toNat (List.drop 0 (List.take (((at_ : Nat) : Int)).toNat old))) 0) (((at_ : Nat) : Int)).toNat (no, t, ())))) then (bif (Nat.ble ((IntKind.i64.wrap (((at_ : Nat) : Int) + (1 : Int)))).toNat ((IntKind.i64.wrap (((List.length old) : Int) + (1 : Int)))).toNat) then (bif (Nat.beq ((IntKind.i64.wrap (((List.length old) : Int) + (1 : Int)))).toNat (List.length (putL (List.set (putL (List.replicate ((IntKind.i64.wrap (((List.length old) : Int) + (1 : Int)))).toNat ((0 : Int), (bs []), ())) (List.take ((IntKind.i64.wrap (((List.length old) : Int) + (1 : Int)))).toNat (List.drop 0 (List.take (((at_ : Nat) : Int)).toNat old))) 0) (((at_ : Nat) : Int)).toNat (no, t, ())) (List.take (((IntKind.i64.wrap (((List.length old) : Int) + (1 : Int)))).toNat - ((IntKind.i64.wrap (((at_ : Nat) : Int) + (1 : Int)))).toNat) (List.drop (((at_ : Nat) : Int)).toNat (List.take (List.length old) old))) ((IntKind.i64.wrap (((at_ : Nat) : Int) + (1 : Int)))).toNat))) then (some (q, (putL (List.set (putL (List.replicate ((IntKind.i64.wrap (((List.length old) : Int) + (1 : Int)))).toNat ((0 : Int), (bs []), ())) (List.take ((IntKind.i64.wrap (((List.length old) : Int) + (1 : Int)))).toNat (List.drop 0 (List.take (((at_ : Nat) : Int)).toNat old))) 0) (((at_ : Nat) : Int)).toNat (no, t, ())) (List.take (((IntKind.i64.wrap (((List.length old) : Int) + (1 : Int)))).toNat - ((IntKind.i64.wrap (((at_ : Nat) : Int) + (1 : Int)))).toNat) (List.drop (((at_ : Nat) : Int)).toNat (List.take (List.length old) old))) ((IntKind.i64.wrap (((at_ : Nat) : Int) + (1 : Int)))).toNat), ())) else none) else none) else none) else none) else none) else none) else none) else none)) else none) else none) else none) else none) else none) else none) = some (q, old.take at_ ++ (no, t, ()) :: old.drop at_, ()) := by
  have w1 : IntKind.i64.wrap ((old.length : Int) + 1) = ((old.length + 1 : Nat) : Int) := i64_succ (by omega)
  have w2 : IntKind.i64.wrap ((at_ : Int) + 1) = ((at_ + 1 : Nat) : Int) := i64_succ (by omega)
  simp only [w1, w2, Int.toNat_natCast]
  have key := putL_zero old at_ (no, t, ()) ((0 : Int), bs [], ()) h
  have l1 : (putL (List.replicate (old.length + 1) ((0 : Int), (bs []), ())) (List.take (old.length + 1) (List.drop 0 (List.take at_ old))) 0).length = old.length + 1 := by
    unfold putL; simp; omega
  have l2 : (old.take at_ ++ (no, t, ()) :: old.drop at_).length = old.length + 1 := by
    rw [List.length_append, List.length_take, List.length_cons, List.length_drop]; omega
  have d2 : decide ((0 : Int) ≤ ((old.length + 1 : Nat) : Int)) = true := decide_eq_true (by omega)
  have d3 : decide (((old.length + 1 : Nat) : Int) * 24 ≤ 140737488355328) = true := decide_eq_true (by omega)
  have d4 : decide ((0 : Int) ≤ (at_ : Int)) = true := decide_eq_true (by omega)
  have d5 : decide ((at_ : Int) ≤ (old.length : Int)) = true := decide_eq_true (by omega)
  have d9 : decide ((0 : Int) ≤ ((at_ + 1 : Nat) : Int)) = true := decide_eq_true (by omega)
  have d10 : decide (((at_ + 1 : Nat) : Int) ≤ ((old.length + 1 : Nat) : Int)) = true := decide_eq_true (by omega)
  have b1 : Nat.ble (at_ + 1) (old.length + 1) = true := Nat.ble_eq_true_of_le (by omega)
  have hw : ∀ {R : Type} (x : Option R), within (at_ : Int) (old.length + 1) x = x := fun x => within_nat_lt (by omega)
  simp only [decide_true, cond_true, d2, d3, d4, d5, List.length_replicate, Nat.beq_refl, hw, l1, b1, d9, d10, List.length_set, key, l2]
def insV (l : List Val) (no : Int) (t : ByteArray) : List Val :=
  bif decide (idxGt no l 0 < 0) then l ++ [(no, t, ())] else l.take (idxGt no l 0).toNat ++ (no, t, ()) :: l.drop (idxGt no l 0).toNat
def withM (m : Msg) (no : Int) (t : ByteArray) : Msg := (m.1, insV (dropV m.2.1 no) no t, ())
theorem MWith_eq (m : Msg) (no : Int) (t : ByteArray) (h : m.2.1.length ≤ 1000000) : msg_With m no t = some (withM m no t) := by
  unfold msg_With msg_With_s0 withM
  have hl := dropV_len m.2.1 no
  rw [MWithout_eq m no h, some_bind]
  dsimp only
  generalize dropV m.2.1 no = old at *
  rw [IndexGt_eq old no (by omega), some_bind]
  dsimp only
  unfold insV
  rcases idxGt_cases no old 0 (Int.le_refl _) with ⟨h1, _⟩ | h1
  · rw [h1, decide_eq_true (by omega : (-1 : Int) < 0), cond_true, cond_true]
    refine (with_tail m.1 t no old old.length (Nat.le_refl _) (by omega)).trans ?_
    rw [List.take_length, List.drop_length]
  · rw [decide_eq_false (by omega : ¬ idxGt no old 0 < 0), cond_false, cond_false]
    obtain ⟨n, hn⟩ : ∃ n : Nat, idxGt no old 0 = n := ⟨(idxGt no old 0).toNat, by omega⟩
    rw [hn]
    refine (with_tail m.1 t no old n (by omega) (by omega)).trans ?_
    rw [Int.toNat_natCast]
def fieldsC (s : Schema) : List Val → Int → Option Fault
  | [], _ => none
  | x :: r, last => bif decide (x.1 ≤ last) then some (11, x.1, ()) else bif !hasS s x.1 then some (9, x.1, ()) else bif !decide (valC (getS s x.1) x.2.1 = 0) then some (valC (getS s x.1) x.2.1, x.1, ()) else fieldsC s r x.1
def fieldsX (o : Option Fault) : Option (Sum Fault Fault) := some (match o with
  | some f => .inl f
  | none => .inr fault0)
theorem fields_run (s : Schema) (hs : s.2.2.1.length ≤ maxLen) : ∀ (l : List Val) (i last : Int), (∀ v ∈ l, v.2.1.size ≤ 1099511627776) →
    runI (fun i (x : Val) (t9 : Int) K => (bif (decide (x.1 ≤ t9)) then some (Sum.inl ((11 : Int), x.1, ())) else ((schema_Find s x.1).bind fun r3 => (bif (!r3.2) then some (Sum.inl ((9 : Int), x.1, ())) else ((spec_Value r3.1 x.2.1).bind fun r4 => (bif (!(decide (r4 = (0 : Int)))) then some (Sum.inl (r4, x.1, ())) else K x.1)))))) (fun _ => some (Sum.inr fault0)) l i last = fieldsX (fieldsC s l last)
  | [], i, last, _ => rfl
  | x :: r, i, last, h => by
    rw [runI, fieldsC, Find_eq2 s _ hs, some_bind]
    cases decide (x.1 ≤ last) with
    | true => rfl
    | false =>
      rw [cond_false, cond_false]
      dsimp only
      cases hasS s x.1 with
      | false => rfl
      | true =>
        rw [Bool.not_true, cond_false, cond_false, Value_eq' _ _ (h x List.mem_cons_self), some_bind]
        cases decide (valC (getS s x.1) x.2.1 = 0) with
        | false => rfl
        | true =>
          rw [Bool.not_true, cond_false, cond_false]
          exact fields_run s hs r (i + 1) x.1 (fun v hv => h v (List.mem_cons_of_mem _ hv))
def msgC (s : Schema) (m : Msg) : Fault :=
  bif !decide ((schemaC s).1 = 0) then (1, -1, ()) else bif !rightM m.1 then (7, 0, ()) else bif !decide (verM m.1 = s.2.1) then (7, 0, ()) else match fieldsC s m.2.1 0 with
    | some f => f
    | none => fault0
theorem msgCheck_eq (s : Schema) (m : Msg) (hs : s.2.2.1.length ≤ maxLen) (h : MsgOk m) : msg_Check s m = some (msgC s m) := by
  unfold msg_Check msg_Check_s0 msgC
  rw [Check_eq s hs, some_bind, Version_eq m.1 (by rw [maxLen_eq]; exact h.mti), some_bind]
  cases decide ((schemaC s).1 = 0) with
  | false => rfl
  | true =>
    rw [Bool.not_true, cond_false, cond_false]
    dsimp only
    cases rightM m.1 with
    | false => rfl
    | true =>
      rw [Bool.not_true, cond_false, cond_false]
      cases decide (verM m.1 = s.2.1) with
      | false => rfl
      | true =>
        rw [Bool.not_true, cond_false, cond_false]
        have hl := h.len
        have := loopI vnil m.2.1 (by rw [maxLen_eq]; omega) (fun i (x : Val) (t9 : Int) K => (bif (decide (x.1 ≤ t9)) then some (Sum.inl ((11 : Int), x.1, ())) else ((schema_Find s x.1).bind fun r3 => (bif (!r3.2) then some (Sum.inl ((9 : Int), x.1, ())) else ((spec_Value r3.1 x.2.1).bind fun r4 => (bif (!(decide (r4 = (0 : Int)))) then some (Sum.inl (r4, x.1, ())) else K x.1)))))) (fun _ => some (Sum.inr fault0))
          (fun k i t9 => msg_Check_l0 k t9 m.2.1 (m.2.1.length : Int) i s fault0) (fun k i t9 => rfl) 0
        rw [this, fields_run s hs _ _ _ h.txt]
        unfold fieldsX
        cases fieldsC s m.2.1 0 <;> rfl
theorem fields16_loop (s : Schema) (m : Msg) (hs : s.2.2.1.length ≤ maxLen) (h : MsgOk m) (last : Int) : r16_Check_l0 FUEL last 0 s m fault0 = fieldsX (fieldsC s m.2.1 last) := by
  have hl := h.len
  rw [← fields_run s hs m.2.1 0 last h.txt]
  refine loopJ vnil m.2.1 (by rw [maxLen_eq]; omega) (fun i (x : Val) (t9 : Int) K => (bif (decide (x.1 ≤ t9)) then some (Sum.inl ((11 : Int), x.1, ())) else ((schema_Find s x.1).bind fun r3 => (bif (!r3.2) then some (Sum.inl ((9 : Int), x.1, ())) else ((spec_Value r3.1 x.2.1).bind fun r4 => (bif (!(decide (r4 = (0 : Int)))) then some (Sum.inl (r4, x.1, ())) else K x.1)))))) (fun _ => some (Sum.inr fault0))
    (fun k i t9 => r16_Check_l0 k t9 i s m fault0) (fun k i t9 h0 h1 => ?_) (fun k t9 => ?_) last
  · show r16_Check_l0 (k + 1) t9 i s m fault0 = _
    conv => lhs; unfold r16_Check_l0 r16_Check_s1
    rw [decide_eq_true h1, cond_true, within_int h0 h1]
    have hx : (List.getD m.2.1 i.toNat ((0 : Int), bs [], ())) ∈ m.2.1 := by
      rw [List.getD_eq_getElem?_getD, List.getElem?_eq_getElem (by omega)]
      exact List.getElem_mem _
    show _ = (bif (decide ((List.getD m.2.1 i.toNat ((0 : Int), bs [], ())).1 ≤ t9)) then _ else _)
    generalize hxx : (List.getD m.2.1 i.toNat ((0 : Int), bs [], ())) = x at *
    cases decide (x.1 ≤ t9) with
    | true => rfl
    | false =>
      rw [cond_false, cond_false, Find13_eq s _ hs, some_bind, Find_eq2 s _ hs, some_bind]
      rcases idx_cases s x.1 with ⟨i1, i2, i3⟩ | ⟨i1, i2, i3, i4⟩
      · rw [i1, i2, decide_eq_true (by omega : (-1 : Int) < 0)]; rfl
      · rw [decide_eq_false (by omega : ¬ idxS s.2.2.1 x.1 0 < 0), cond_false, i3, Bool.not_true, cond_false, within_int i1 i2, within_int h0 h1, i4, Value11_eq _ _ (h.txt x hx), some_bind, Value_eq' _ _ (h.txt x hx), some_bind]
  · show r16_Check_l0 (k + 1) t9 m.2.1.length s m fault0 = _
    conv => lhs; unfold r16_Check_l0 r16_Check_s1
    rw [decide_eq_false (by omega), cond_false]
theorem Check16_eq (s : Schema) (m : Msg) (hs : s.2.2.1.length ≤ maxLen) (h : MsgOk m) : r16_Check s m = some (msgC s m) := by
  unfold r16_Check r16_Check_s0 msgC
  rw [Right13_eq s hs, some_bind, Right15_eq m.1 (by rw [maxLen_eq]; exact h.mti), some_bind]
  cases decide ((schemaC s).1 = 0) with
  | false => rfl
  | true =>
    rw [Bool.not_true, cond_false, cond_false]
    cases hr : rightM m.1 with
    | false => rfl
    | true =>
      obtain ⟨r1, _⟩ := rightM_iff.1 hr
      have hd := dig_at hr 0 (by omega)
      rw [Bool.not_true, cond_false, cond_false, within_int (by omega) (by omega)]
      have hv : verM m.1 = byteAt m.1 0 - 48 := by unfold verM; rw [hr]; rfl
      have e1 : IntKind.i64.wrap (byteAt m.1 0) = byteAt m.1 0 := i64_id (by omega) (by omega)
      rw [show ((0 : Int)).toNat = 0 from rfl, e1, i64_id (by omega) (by omega), ← hv]
      cases decide (verM m.1 = s.2.1) with
      | false => rfl
      | true =>
        rw [Bool.not_true, cond_false, cond_false]
        dsimp only
        rw [fields16_loop s m hs h 0]
        unfold fieldsX
        cases fieldsC s m.2.1 0 <;> rfl
def eqV (x y : Val) : Bool := (decide (x.1 = y.1)) && ((decide (x.2.1 = y.2.1)) && true)
theorem eqV_iff (x y : Val) : eqV x y = true ↔ x = y := by
  unfold eqV
  simp only [Bool.and_eq_true, decide_eq_true_eq, and_true]
  exact ⟨fun h => Prod.ext h.1 (Prod.ext h.2 rfl), fun h => by rw [h]; exact ⟨rfl, rfl⟩⟩
theorem msg_ext {a b : Msg} : a = b ↔ a.1 = b.1 ∧ a.2.1 = b.2.1 := ⟨fun h => by rw [h]; exact ⟨rfl, rfl⟩, fun h => Prod.ext h.1 (Prod.ext h.2 rfl)⟩
theorem Same16_eq (a b : Msg) (h : a.2.1.length ≤ maxLen) : r16_Same a b = some (decide (a = b)) := by
  unfold r16_Same r16_Same_s0
  by_cases h1 : a.1 = b.1
  · rw [decide_eq_true h1, Bool.not_true, cond_false]
    by_cases h2 : a.2.1.length = b.2.1.length
    · rw [decide_eq_true (by omega), Bool.not_true, cond_false]
      dsimp only
      rw [same_loop vnil eqV eqV_iff a.2.1 b.2.1 h2 h (fun k i => r16_Same_l0 k i a b) (fun k i => rfl)]
      by_cases e : a.2.1 = b.2.1
      · rw [if_pos e, decide_eq_true (msg_ext.2 ⟨h1, e⟩)]; rfl
      · rw [if_neg e, decide_eq_false (fun hh => e (msg_ext.1 hh).2)]; rfl
    · have e : decide (a = b) = false := decide_eq_false (fun hh => h2 (by rw [hh]))
      rw [e, decide_eq_false (by omega : ¬ ((a.2.1.length : Int) = (b.2.1.length : Int)))]; rfl
  · have e : decide (a = b) = false := decide_eq_false (fun hh => h1 (by rw [hh]))
    rw [e, decide_eq_false h1]; rfl
def greatV (m : Msg) : Bool := decide ((100 : Int) < (m.1.size : Int)) || (decide ((200 : Int) < (m.2.1.length : Int)) || m.2.1.any fun v => decide ((1200 : Int) < (v.2.1.size : Int)))
theorem gv_run : ∀ (l : List Val) (i : Int), runI (fun i (x : Val) (s : Unit) K => (bif (decide ((1200 : Int) < ((x.2.1).size : Int))) then some (Sum.inl true) else K s)) (fun _ => some (Sum.inr ())) l i () = some (bif l.any (fun v => decide ((1200 : Int) < (v.2.1.size : Int))) then Sum.inl true else Sum.inr ())
  | [], i => rfl
  | x :: r, i => by
    rw [runI, List.any_cons]
    cases decide ((1200 : Int) < (x.2.1.size : Int)) with
    | true => rfl
    | false => rw [cond_false, Bool.false_or]; exact gv_run r (i + 1)
theorem Great16_eq (m : Msg) (h : m.2.1.length ≤ maxLen) : r16_Great m = some (greatV m) := by
  unfold r16_Great r16_Great_s0 greatV
  cases decide ((100 : Int) < (m.1.size : Int)) with
  | true => rfl
  | false =>
    cases decide ((200 : Int) < (m.2.1.length : Int)) with
    | true => rfl
    | false =>
      rw [cond_false, cond_false, Bool.false_or, Bool.false_or]
      dsimp only
      have := loopI vnil m.2.1 h (fun i (x : Val) (s : Unit) K => (bif (decide ((1200 : Int) < ((x.2.1).size : Int))) then some (Sum.inl true) else K s)) (fun _ => some (Sum.inr ()))
        (fun k i s => r16_Great_l0 k i m) (fun k i s => rfl) ()
      rw [this, gv_run]
      cases m.2.1.any (fun v => decide ((1200 : Int) < (v.2.1.size : Int))) <;> rfl
theorem greatV_ok {m : Msg} (h : greatV m = false) : MsgOk m ∧ m.2.1.length ≤ 200 ∧ ∀ v ∈ m.2.1, v.2.1.size ≤ 1200 := by
  unfold greatV at h
  rw [Bool.or_eq_false_iff, Bool.or_eq_false_iff, decide_eq_false_iff_not, decide_eq_false_iff_not] at h
  obtain ⟨h1, h2, h3⟩ := h
  have hv : ∀ v ∈ m.2.1, v.2.1.size ≤ 1200 := fun v hv => by
    have := List.any_eq_false.1 h3 v hv
    simp only [decide_eq_true_eq] at this
    omega
  exact ⟨⟨by omega, by omega, fun v hm => Nat.le_trans (hv v hm) (by omega)⟩, by omega, hv⟩
end Groat
set_option linter.unusedVariables false
set_option linter.unusedSimpArgs false
namespace Groat
open Go Go.Ref
theorem dig_byte {l : List Int} (h : allD l = true) : ∀ x ∈ l, isByte x := fun x hx => by
  have := List.all_eq_true.1 h x hx
  simp only [isDig, decide_eq_true_eq] at this
  unfold isByte; omega
theorem set_rep (x : Int) (tail : List Int) : ∀ j, (List.replicate (j + 1) (0 : Int) ++ tail).set j x = List.replicate j 0 ++ x :: tail
  | 0 => rfl
  | j + 1 => by
    show (0 : Int) :: ((List.replicate (j + 1) (0 : Int) ++ tail).set j x) = 0 :: (List.replicate j 0 ++ x :: tail)
    rw [set_rep x tail j]
end Groat
set_option linter.unusedVariables false
set_option linter.unusedSimpArgs false
namespace Groat
open Go Go.Ref
def allZ (l : List Int) : Bool := l.all fun b => decide (b = 48)
theorem allZ_cons (b : Int) (l : List Int) : allZ (b :: l) = (decide (b = 48) && allZ l) := rfl
theorem allZ_append (a b : List Int) : allZ (a ++ b) = (allZ a && allZ b) := List.all_append ..
theorem bl_byteAt0 (s : ByteArray) (x : Int) (l : List Int) (h : bl s = x :: l) : byteAt s 0 = x := by rw [bl_byteAt, h]; rfl
theorem trimR (k : Nat) : ∀ (s : ByteArray), s.size < k → s.size ≤ 9223372036854775807 → ∃ r, strings_trimRightByte_l0 k s 48 = some r ∧ allZ (bl r) = allZ (bl s) ∧ (allZ (bl s) = true → bl r = []) ∧ r.size ≤ s.size := by
  induction k with
  | zero => intro s h; omega
  | succ k ih =>
    intro s h hs
    unfold strings_trimRightByte_l0 strings_trimRightByte_s1
    dsimp only
    by_cases h0 : (0 : Int) < (s.size : Int)
    · have hm : IntKind.i64.wrap ((s.size : Int) - 1) = ((s.size - 1 : Nat) : Int) := by rw [i64_id (by omega) (by omega)]; omega
      rw [decide_eq_true h0, cond_true, hm, within_nat_lt (by omega), Int.toNat_natCast]
      have hl : (bl s).length = s.size := bl_length s
      have hne : bl s ≠ [] := by intro e; rw [e] at hl; simp at hl; omega
      obtain ⟨r, b, hb⟩ : ∃ r b, bl s = r ++ [b] := ⟨(bl s).dropLast, (bl s).getLast hne, (List.dropLast_concat_getLast hne).symm⟩
      have hr : r.length = s.size - 1 := by rw [hb] at hl; simp at hl; omega
      have hx : byteAt s (s.size - 1) = b := by
        rw [bl_byteAt, hb, ← hr, List.getD_eq_getElem?_getD]; simp
      rw [hx]
      by_cases hz : b = 48
      · rw [decide_eq_true hz, cond_true, decide_eq_true (by omega : (0 : Int) ≤ ((s.size - 1 : Nat) : Int)), cond_true, decide_eq_true (by omega : ((s.size - 1 : Nat) : Int) ≤ ((s.size : Nat) : Int)), cond_true]
        have he : bl (s.extract 0 (s.size - 1)) = r := by rw [bl_extract, hb, List.drop_zero, ← hr, List.take_left']; rfl
        have hsz : (s.extract 0 (s.size - 1)).size = s.size - 1 := by rw [← bl_length, he, hr]
        obtain ⟨q, q1, q2, q3, q4⟩ := ih (s.extract 0 (s.size - 1)) (by omega) (by omega)
        refine ⟨q, q1, ?_, fun ha => q3 ?_, by omega⟩
        · rw [q2, he, hb, allZ_append, allZ_cons, decide_eq_true hz]; simp [allZ]
        · rw [hb, allZ_append, Bool.and_eq_true] at ha
          rw [he]; exact ha.1
      · rw [decide_eq_false hz, cond_false]
        refine ⟨s, rfl, rfl, fun ha => ?_, Nat.le_refl _⟩
        rw [hb, allZ_append, allZ_cons, decide_eq_false hz] at ha
        simp at ha
    · rw [decide_eq_false h0, cond_false]
      refine ⟨s, rfl, rfl, fun _ => List.eq_nil_of_length_eq_zero (by rw [bl_length]; omega), Nat.le_refl _⟩
theorem drop1 {s : ByteArray} {x : Int} {l : List Int} (h : bl s = x :: l) : bl (s.extract 1 s.size) = l := by
  rw [bl_extract, ← bl_length, List.take_length, h]; rfl
theorem trimL (k : Nat) : ∀ (s : ByteArray), s.size < k → s.size ≤ 9223372036854775807 → ∃ r, strings_trimLeftByte_l0 k s 48 = some r ∧ ((bl r = []) ↔ allZ (bl s) = true) := by
  induction k with
  | zero => intro s h; omega
  | succ k ih =>
    intro s h hs
    unfold strings_trimLeftByte_l0 strings_trimLeftByte_s1
    dsimp only
    have hl : (bl s).length = s.size := bl_length s
    by_cases h0 : (0 : Int) < (s.size : Int)
    · rw [decide_eq_true h0, cond_true, within_int (by omega) h0]
      cases hb : bl s with
      | nil => rw [hb] at hl; simp at hl; omega
      | cons x l =>
        rw [show ((0 : Int)).toNat = 0 from rfl, show ((1 : Int)).toNat = 1 from rfl, bl_byteAt0 s x l hb]
        by_cases hz : x = 48
        · rw [decide_eq_true hz, cond_true, decide_eq_true (by omega : (1 : Int) ≤ ((s.size : Nat) : Int)), cond_true]
          have he := drop1 hb
          have hsz : (s.extract 1 s.size).size = s.size - 1 := by rw [← bl_length, he, ← hl, hb]; simp
          obtain ⟨q, q1, q2⟩ := ih (s.extract 1 s.size) (by omega) (by omega)
          refine ⟨q, q1, q2.trans ?_⟩
          rw [he, allZ_cons, decide_eq_true hz]; simp
        · rw [decide_eq_false hz, cond_false]
          refine ⟨s, rfl, ?_⟩
          rw [hb, allZ_cons, decide_eq_false hz]; simp
    · rw [decide_eq_false h0, cond_false]
      have : bl s = [] := List.eq_nil_of_length_eq_zero (by omega)
      refine ⟨s, rfl, ?_⟩
      rw [this]; simp [allZ]
theorem Trim_eq (s : ByteArray) (h : s.size ≤ 9223372036854775807) : ∃ r, strings_Trim s (bs [48]) = some r ∧ (r = bs [] ↔ allZ (bl s) = true) := by
  unfold strings_Trim strings_Trim_s0
  by_cases h0 : s = bs []
  · rw [decide_eq_true h0, cond_true]
    refine ⟨s, rfl, ?_⟩
    rw [h0]; simp [bl_empty, allZ]
  rw [decide_eq_false h0, cond_false, decide_eq_false (show ¬ bs [48] = bs [] from fun e => absurd (congrArg ByteArray.size e) (by decide)), cond_false, decide_eq_true (by rfl : (((bs [48]).size : Nat) : Int) = 1), cond_true]
  have hb : byteAt (bs [48]) ((0 : Int)).toNat = 48 := by rw [bl_byteAt]; rfl
  have hw {R : Type} (x : Option R) : within (0 : Int) (bs [48]).size x = x := within_int (by omega) (by decide)
  rw [hw, hb, decide_eq_true (by decide : (48 : Int) < 128), cond_true, hw]
  unfold strings_trimRightByte strings_trimRightByte_s0
  dsimp only
  obtain ⟨r, r1, r2, r3, r4⟩ := trimR FUEL s (by rw [fuel_eq]; omega) h
  rw [r1, some_bind]
  unfold strings_trimRightByte_s2
  rw [some_bind, hw]
  unfold strings_trimLeftByte strings_trimLeftByte_s0
  dsimp only
  obtain ⟨q, q1, q2⟩ := trimL FUEL r (by rw [fuel_eq]; omega) (by omega)
  rw [q1, some_bind]
  unfold strings_trimLeftByte_s2
  rw [some_bind]
  refine ⟨q, rfl, ?_⟩
  rw [bl_nil_iff, q2, r2]
theorem repeat_bl : ∀ (c : Nat), bl ⟨(Go.Lib.repeatL (bs [48]).data.toList c).toArray⟩ = List.replicate c 48
  | 0 => rfl
  | c + 1 => by
    rw [List.replicate_succ, ← repeat_bl c]
    simp only [bl, Go.Lib.repeatL, List.map_append]
    rfl
def padD (s : ByteArray) (w : Int) : ByteArray × Bool :=
  bif decide (1 ≤ s.size ∧ s.size ≤ 999 ∧ allD (bl s) = true ∧ 1 ≤ w ∧ w ≤ 999) then
    (bif decide ((s.size : Int) ≤ w) then (strOf (List.replicate (w - s.size).toNat 48 ++ bl s), true)
     else bif allZ ((bl s).take (s.size - w.toNat)) then (strOf ((bl s).drop (s.size - w.toNat)), true) else (bs [], false))
  else (bs [], false)
theorem padD_f {s : ByteArray} {w : Int} (h : ¬ (1 ≤ s.size ∧ s.size ≤ 999 ∧ allD (bl s) = true ∧ 1 ≤ w ∧ w ≤ 999)) : padD s w = (bs [], false) := by unfold padD; rw [decide_eq_false h]; rfl
theorem padD_t {s : ByteArray} {w : Int} (h : 1 ≤ s.size ∧ s.size ≤ 999 ∧ allD (bl s) = true ∧ 1 ≤ w ∧ w ≤ 999) : padD s w = (bif decide ((s.size : Int) ≤ w) then (strOf (List.replicate (w - s.size).toNat 48 ++ bl s), true)
     else bif allZ ((bl s).take (s.size - w.toNat)) then (strOf ((bl s).drop (s.size - w.toNat)), true) else (bs [], false)) := by unfold padD; rw [decide_eq_true h]; rfl
theorem Pad_eq (s : ByteArray) (w : Int) (h : s.size ≤ maxLen) : digits_Pad s w = some (padD s w) := by
  unfold digits_Pad digits_Pad_s0
  dsimp only
  by_cases h0 : s = bs []
  · rw [decide_eq_true h0, cond_true, padD_f]
    intro hh
    rw [h0] at hh
    exact absurd hh.1 (by decide)
  have hz : s.size ≠ 0 := fun e => h0 (bl_nil_iff.2 (List.eq_nil_of_length_eq_zero (by rw [bl_length]; exact e)))
  rw [decide_eq_false h0, cond_false]
  by_cases h1 : (999 : Int) < (s.size : Int)
  · rw [decide_eq_true h1, cond_true, padD_f (by omega)]
  rw [decide_eq_false h1, cond_false, All_eq s h, some_bind]
  cases hd : allD (bl s) with
  | false => rw [padD_f (by rw [hd]; simp)]; rfl
  | true =>
    rw [Bool.not_true, cond_false]
    by_cases h2 : w < 1
    · rw [decide_eq_true h2, cond_true, padD_f (by omega)]
    rw [decide_eq_false h2, cond_false]
    by_cases h3 : (999 : Int) < w
    · rw [decide_eq_true h3, cond_true, padD_f (by omega)]
    rw [decide_eq_false h3, cond_false, padD_t ⟨by omega, by omega, hd, by omega, by omega⟩]
    obtain ⟨v, rfl⟩ : ∃ v : Nat, w = v := ⟨w.toNat, by omega⟩
    by_cases h4 : (s.size : Int) ≤ (v : Int)
    · rw [decide_eq_true h4, cond_true, cond_true]
      obtain ⟨c, hc⟩ : ∃ c : Nat, (v : Int) - (s.size : Int) = (c : Int) := ⟨v - s.size, by omega⟩
      rw [hc, i64_nat (by omega)]
      have hR : strings_Repeat (bs [48]) (c : Int) = some ⟨(Go.Lib.repeatL (bs [48]).data.toList c).toArray⟩ := by
        unfold strings_Repeat
        rw [decide_eq_true (by omega : (0 : Int) ≤ (c : Int)), decide_eq_true (by omega : (c : Int) ≤ 9223372036854775807), decide_eq_true (by rw [show (((bs [48]).size : Nat) : Int) = 1 from rfl]; omega), Int.toNat_natCast]
        rfl
      rw [hR, some_bind]
      have hsz : ((⟨(Go.Lib.repeatL (bs [48]).data.toList c).toArray⟩ : ByteArray)).size = c := by rw [← bl_length, repeat_bl, List.length_replicate]
      rw [hsz, decide_eq_true (by omega), cond_true, Int.toNat_natCast]
      congr 2
      apply bl_inj
      rw [bl_append, repeat_bl, bl_strOf]
      intro x hx
      rcases List.mem_append.1 hx with hx | hx
      · rw [(List.mem_replicate.1 hx).2]; unfold isByte; omega
      · exact bl_byte hx
    · rw [decide_eq_false h4, cond_false, cond_false]
      obtain ⟨c, hc⟩ : ∃ c : Nat, (s.size : Int) - (v : Int) = (c : Int) := ⟨s.size - v, by omega⟩
      have hcv : s.size - ((v : Int)).toNat = c := by omega
      rw [hc, i64_nat (by omega), decide_eq_true (by omega : (0 : Int) ≤ (c : Int)), cond_true, decide_eq_true (by omega : (c : Int) ≤ ((s.size : Nat) : Int)), cond_true, Int.toNat_natCast, hcv]
      have hx : bl (s.extract 0 c) = (bl s).take c := by rw [bl_extract, List.drop_zero]
      have hxs : (s.extract 0 c).size = c := by rw [← bl_length, hx, List.length_take, bl_length]; omega
      obtain ⟨r, r1, r2⟩ := Trim_eq (s.extract 0 c) (by omega)
      rw [r1, some_bind]
      rw [hx] at r2
      cases ha : allZ ((bl s).take c) with
      | true =>
        rw [decide_eq_true (r2.2 ha), Bool.not_true, cond_false, cond_true, cond_true]
        congr 2
        apply bl_inj
        rw [bl_extract, ← bl_length, List.take_length, bl_strOf]
        exact fun x hx => bl_byte (List.mem_of_mem_drop hx)
      | false =>
        rw [decide_eq_false (fun e => by rw [r2.1 e] at ha; cases ha), Bool.not_false, cond_true]; rfl
theorem pad01_l0 (v : Nat) (hv : v ≤ 999) : ∀ (n k : Nat) (s : ByteArray), v - s.size ≤ n → n < k → s.size ≤ 999 → r01_Pad_l0 k s (v : Int) = some (strOf (List.replicate (v - s.size) 48 ++ bl s), (v : Int))
  | n, 0, s, _, hk, _ => by omega
  | n, k + 1, s, hn, hk, hs => by
    unfold r01_Pad_l0 r01_Pad_s1
    dsimp only
    by_cases h : (s.size : Int) < (v : Int)
    · have h48 : (bs [48]).size = 1 := rfl
      rw [decide_eq_true h, cond_true, decide_eq_true (by omega), cond_true]
      obtain ⟨n, rfl⟩ : ∃ n', n = n' + 1 := ⟨n - 1, by omega⟩
      have hsz : (bs [48] ++ s).size = s.size + 1 := by rw [ByteArray.size_append]; omega
      rw [pad01_l0 v hv n k _ (by omega) (by omega) (by omega), hsz, bl_append]
      obtain ⟨m, hm⟩ : ∃ m, v - s.size = m + 1 := ⟨v - s.size - 1, by omega⟩
      rw [show v - (s.size + 1) = m by omega, hm, List.replicate_succ', List.append_assoc]
      rfl
    · rw [decide_eq_false h, cond_false, show v - s.size = 0 by omega, List.replicate_zero, List.nil_append, strOf_bl]
def fin01 (e : Sum Zt9 ByteArray) : Option Zt3 :=
  Sum.elim (fun (we : Zt9) => r01_Pad_s4 we.1 we.2.1 we.2.2 (fun a0 a1 => some (a0, a1))) (fun (we : ByteArray) => r01_Pad_s5 we (fun a0 a1 => some (a0, a1))) e
theorem pad01_l1 (v : Nat) : ∀ (n k : Nat) (s : ByteArray), s.size - v ≤ n → n < k → s.size ≤ 999 → (r01_Pad_l1 k s (v : Int)).bind fin01 = some (bif allZ ((bl s).take (s.size - v)) then (strOf ((bl s).drop (s.size - v)), true) else (bs [], false))
  | n, 0, s, _, hk, _ => by omega
  | n, k + 1, s, hn, hk, hs => by
    unfold r01_Pad_l1 r01_Pad_s3
    dsimp only
    have hl : (bl s).length = s.size := bl_length s
    by_cases h : (v : Int) < (s.size : Int)
    · rw [decide_eq_true h, cond_true, within_int (by omega) (by omega)]
      cases hb : bl s with
      | nil => rw [hb] at hl; simp at hl; omega
      | cons x l =>
        have hm : s.size - v = (s.size - 1 - v) + 1 := by omega
        rw [show ((0 : Int)).toNat = 0 from rfl, show ((1 : Int)).toNat = 1 from rfl, bl_byteAt0 s x l hb, hm, List.take_succ_cons, allZ_cons, List.drop_succ_cons]
        by_cases hz : x = 48
        · rw [decide_eq_true hz, Bool.not_true, cond_false, decide_eq_true (by omega : (1 : Int) ≤ ((s.size : Nat) : Int)), cond_true, Bool.true_and]
          have he := drop1 hb
          have hsz : (s.extract 1 s.size).size = s.size - 1 := by rw [← bl_length, he, ← hl, hb]; simp
          obtain ⟨n, rfl⟩ : ∃ n', n = n' + 1 := ⟨n - 1, by omega⟩
          rw [pad01_l1 v n k _ (by omega) (by omega) (by omega), he, hsz]
        · rw [decide_eq_false hz, Bool.not_false, cond_true, Bool.false_and]; rfl
    · rw [decide_eq_false h, cond_false, show s.size - v = 0 by omega, List.take_zero, List.drop_zero, strOf_bl]; rfl
theorem Pad01_eq (s : ByteArray) (w : Int) (h : s.size ≤ maxLen) : r01_Pad s w = some (padD s w) := by
  unfold r01_Pad r01_Pad_s0
  dsimp only
  by_cases h0 : (s.size : Int) < 1
  · rw [decide_eq_true h0, cond_true, padD_f (by omega)]
  rw [decide_eq_false h0, cond_false]
  by_cases h1 : (999 : Int) < (s.size : Int)
  · rw [decide_eq_true h1, cond_true, padD_f (by omega)]
  rw [decide_eq_false h1, cond_false, All01_eq s h, some_bind]
  cases hd : allD (bl s) with
  | false => rw [padD_f (by rw [hd]; simp)]; rfl
  | true =>
    rw [Bool.not_true, cond_false]
    by_cases h2 : w < 1
    · rw [decide_eq_true h2, cond_true, padD_f (by omega)]
    rw [decide_eq_false h2, cond_false]
    by_cases h3 : (999 : Int) < w
    · rw [decide_eq_true h3, cond_true, padD_f (by omega)]
    rw [decide_eq_false h3, cond_false, padD_t ⟨by omega, by omega, hd, by omega, by omega⟩]
    obtain ⟨v, rfl⟩ : ∃ v : Nat, w = v := ⟨w.toNat, by omega⟩
    rw [pad01_l0 v (by omega) 999 FUEL s (by omega) (by rw [fuel_eq]; omega) (by omega), some_bind]
    unfold r01_Pad_s2
    dsimp only
    have hbl : bl (strOf (List.replicate (v - s.size) 48 ++ bl s)) = List.replicate (v - s.size) 48 ++ bl s := by
      rw [bl_strOf]
      intro x hx
      rcases List.mem_append.1 hx with hx | hx
      · rw [(List.mem_replicate.1 hx).2]; unfold isByte; omega
      · exact bl_byte hx
    have hsz : (strOf (List.replicate (v - s.size) 48 ++ bl s)).size = v - s.size + s.size := by rw [← bl_length, hbl, List.length_append, List.length_replicate, bl_length]
    have := pad01_l1 v 999 FUEL (strOf (List.replicate (v - s.size) 48 ++ bl s)) (by omega) (by rw [fuel_eq]; omega) (by omega)
    refine this.trans ?_
    rw [hsz, hbl]
    congr 1
    by_cases h4 : (s.size : Int) ≤ (v : Int)
    · rw [decide_eq_true h4, cond_true, show v - s.size + s.size - v = 0 by omega, List.take_zero, List.drop_zero, show ((v : Int) - (s.size : Int)).toNat = v - s.size by omega]; rfl
    · rw [decide_eq_false h4, cond_false, show v - s.size = 0 by omega, Nat.zero_add, List.replicate_zero, List.nil_append, show ((v : Int)).toNat = v by omega]
end Groat
set_option linter.unusedVariables false
set_option linter.unusedSimpArgs false
namespace Groat
open Go Go.Ref
@[irreducible] def tlvE (x : ByteArray) : Int := ((r10_Get x).map fun r => Sum.elim (fun (w : Zt10 × Int × Int) => w.2.1) (fun (w : Zt10 × Int × Int) => w.2.1) r).getD 0
theorem valC_iff (s : Spec) (x : ByteArray) (hx : x.size ≤ 1099511627776) : valC s x = 0 ↔ specC s = 0 ∧ s.2.2.2.1 ≤ (x.size : Int) ∧ (x.size : Int) ≤ s.2.2.2.2.1 ∧ (bl x).all (isC s.2.1) = true ∧ (s.2.1 = 6 → tlvE x = 0) := by
  have h := Value11_eq s x hx
  unfold r11_Value r11_Value_s0 at h
  rw [specCheck11_eq, Option.bind_some, First04_eq _ _ (by rw [maxLen_eq]; omega), Option.bind_some] at h
  obtain ⟨r, hr⟩ := tlv10_total x hx
  have ht : tlvE x = Sum.elim (fun (w : Zt10 × Int × Int) => w.2.1) (fun (w : Zt10 × Int × Int) => w.2.1) r := by unfold tlvE; rw [hr]; rfl
  rw [hr, Option.bind_some] at h
  by_cases c1 : specC s = 0
  · rw [decide_eq_true c1, Bool.not_true, cond_false] at h
    by_cases c2 : (x.size : Int) < s.2.2.2.1
    · rw [decide_eq_true c2, cond_true] at h
      have := Option.some.inj h
      exact ⟨fun e => by omega, fun e => by omega⟩
    rw [decide_eq_false c2, cond_false] at h
    by_cases c3 : s.2.2.2.2.1 < (x.size : Int)
    · rw [decide_eq_true c3, cond_true] at h
      have := Option.some.inj h
      exact ⟨fun e => by omega, fun e => by omega⟩
    rw [decide_eq_false c3, cond_false] at h
    have hf := firstC_none s.2.1 (bl x) 0 (Int.le_refl _)
    by_cases c4 : (0 : Int) ≤ firstC s.2.1 (bl x) 0
    · rw [decide_eq_true c4, cond_true] at h
      have := Option.some.inj h
      exact ⟨fun e => by omega, fun e => absurd e.2.2.2.1 (hf.1 c4)⟩
    rw [decide_eq_false c4, cond_false] at h
    have hall : (bl x).all (isC s.2.1) = true := by
      cases hq : (bl x).all (isC s.2.1) with
      | true => rfl
      | false => exact absurd (hf.2 (by rw [hq]; decide)) c4
    by_cases c5 : s.2.1 = 6
    · rw [decide_eq_true c5, cond_true] at h
      have key : (bif (!decide (tlvE x = 0)) then some (13 : Int) else some 0) = some (valC s x) := by
        rw [← h]
        cases r with
        | inl r => rw [Sum.elim_inl] at ht ⊢; rw [← ht]
        | inr r => rw [Sum.elim_inr] at ht ⊢; rw [← ht]
      by_cases c6 : tlvE x = 0
      · rw [decide_eq_true c6] at key
        have := Option.some.inj key
        exact ⟨fun _ => ⟨c1, by omega, by omega, hall, fun _ => c6⟩, fun _ => this.symm⟩
      · rw [decide_eq_false c6] at key
        have := Option.some.inj key
        exact ⟨fun e => by omega, fun e => absurd (e.2.2.2.2 c5) c6⟩
    · rw [decide_eq_false c5, cond_false] at h
      have := Option.some.inj h
      exact ⟨fun _ => ⟨c1, by omega, by omega, hall, fun e => absurd e c5⟩, fun _ => this.symm⟩
  · rw [decide_eq_false c1, Bool.not_false, cond_true] at h
    have := Option.some.inj h
    exact ⟨fun e => by omega, fun e => absurd e.1 c1⟩
theorem widS_iff (a b : Spec) : widS a b = true ↔ specC a = 0 ∧ specC b = 0 ∧ a.2.2.2.1 ≤ b.2.2.2.1 ∧ b.2.2.2.2.1 ≤ a.2.2.2.2.1 ∧ (a.2.1 = 5 ∨ (a.2.1 = 6 ∧ b.2.1 = 6) ∨ (a.2.1 ≠ 5 ∧ a.2.1 ≠ 6 ∧ b.2.1 ≠ 6 ∧ widerC a.2.1 b.2.1 = true)) := by
  have h := Wider11_eq a b
  unfold r11_Wider r11_Wider_s0 at h
  rw [specCheck11_eq, specCheck11_eq, Wider04_eq] at h
  simp only [Option.bind_some] at h
  by_cases c1 : specC a = 0
  · rw [decide_eq_true c1, Bool.not_true, cond_false] at h
    by_cases c2 : specC b = 0
    · rw [decide_eq_true c2, Bool.not_true, cond_false] at h
      by_cases c3 : b.2.2.2.1 < a.2.2.2.1
      · rw [decide_eq_true c3, cond_true] at h
        have := Option.some.inj h
        exact ⟨fun e => (by rw [e] at this; cases this), fun e => by omega⟩
      rw [decide_eq_false c3, cond_false] at h
      by_cases c4 : a.2.2.2.2.1 < b.2.2.2.2.1
      · rw [decide_eq_true c4, cond_true] at h
        have := Option.some.inj h
        exact ⟨fun e => (by rw [e] at this; cases this), fun e => by omega⟩
      rw [decide_eq_false c4, cond_false] at h
      by_cases c5 : a.2.1 = 5
      · rw [decide_eq_true c5, cond_true] at h
        have := Option.some.inj h
        exact ⟨fun _ => ⟨c1, c2, by omega, by omega, .inl c5⟩, fun _ => this.symm⟩
      rw [decide_eq_false c5, cond_false] at h
      by_cases c6 : a.2.1 = 6
      · rw [decide_eq_true c6, cond_true] at h
        have := Option.some.inj h
        rw [← this, decide_eq_true_eq]
        exact ⟨fun e => ⟨c1, c2, by omega, by omega, .inr (.inl ⟨c6, by omega⟩)⟩, fun e => by omega⟩
      rw [decide_eq_false c6, cond_false] at h
      by_cases c7 : b.2.1 = 6
      · rw [decide_eq_true c7, cond_true] at h
        have := Option.some.inj h
        rw [← this, decide_eq_true_eq]
        exact ⟨fun e => by omega, fun e => by omega⟩
      rw [decide_eq_false c7, cond_false] at h
      have := Option.some.inj h
      rw [← this]
      refine ⟨fun e => ⟨c1, c2, by omega, by omega, .inr (.inr ⟨c5, c6, c7, e⟩)⟩, fun e => ?_⟩
      rcases e.2.2.2.2 with e | e | e
      · exact absurd e c5
      · exact absurd e.1 c6
      · exact e.2.2.2
    · rw [decide_eq_false c2, Bool.not_false, cond_true] at h
      have := Option.some.inj h
      exact ⟨fun e => (by rw [e] at this; cases this), fun e => absurd e.2.1 c2⟩
  · rw [decide_eq_false c1, Bool.not_false, cond_true] at h
    have := Option.some.inj h
    exact ⟨fun e => (by rw [e] at this; cases this), fun e => absurd e.1 c1⟩
theorem specC_facts {s : Spec} (h : specC s = 0) : (2 ≤ s.1 ∧ s.1 ≤ 128) ∧ (1 ≤ s.2.1 ∧ s.2.1 ≤ 6) ∧ (1 ≤ s.2.2.1 ∧ s.2.2.1 ≤ 3) ∧ (1 ≤ s.2.2.2.1 ∧ s.2.2.2.1 ≤ s.2.2.2.2.1 ∧ s.2.2.2.2.1 ≤ 999) ∧ (s.2.2.1 = 1 → s.2.2.2.1 = s.2.2.2.2.1) ∧ ¬ (s.2.2.1 = 1 ∧ s.2.1 = 6) := by
  unfold specC at h
  split at h
  · omega
  split at h
  · omega
  split at h
  · omega
  split at h
  · omega
  split at h
  · omega
  · omega
theorem wid_fin : ∀ a b : Fin 7, widerC (a.1 : Int) (b.1 : Int) = true → a.1 ≠ 5 → a.1 ≠ 6 → b.1 ≠ 6 → (a.1 = b.1 ∨ (a.1 = 3 ∧ (b.1 = 1 ∨ b.1 = 2)) ∨ (a.1 = 4 ∧ (b.1 = 1 ∨ b.1 = 2 ∨ b.1 = 3))) := by decide +kernel
theorem wid_class {a b : Int} (h : widerC a b = true) (h5 : a ≠ 5) (h6 : a ≠ 6) (h7 : b ≠ 6) : a = b ∨ (a = 3 ∧ (b = 1 ∨ b = 2)) ∨ (a = 4 ∧ (b = 1 ∨ b = 2 ∨ b = 3)) := by
  have hr : 1 ≤ a ∧ a ≤ 6 ∧ 1 ≤ b ∧ b ≤ 6 := by
    unfold widerC at h
    rw [Bool.and_eq_true, decide_eq_true_eq] at h
    exact h.1
  obtain ⟨x, rfl⟩ := in_fin ⟨hr.1, hr.2.1⟩
  obtain ⟨y, rfl⟩ := in_fin ⟨hr.2.2.1, hr.2.2.2⟩
  have := wid_fin x y h (by omega) (by omega) (by omega)
  omega
theorem isC_mono {a b x : Int} (h : a = b ∨ (a = 3 ∧ (b = 1 ∨ b = 2)) ∨ (a = 4 ∧ (b = 1 ∨ b = 2 ∨ b = 3))) (hx : isC b x = true) : isC a x = true := by
  rcases h with rfl | ⟨rfl, rfl | rfl⟩ | ⟨rfl, rfl | rfl | rfl⟩
  · exact hx
  all_goals
    simp [isC] at hx ⊢
    omega
theorem isC_five (x : Int) : isC 5 x = true := by simp [isC]
theorem valC_wider {y x : Spec} {t : ByteArray} (ht : t.size ≤ 1099511627776) (hw : widS y x = true) (hv : valC x t = 0) : valC y t = 0 := by
  obtain ⟨w1, w2, w3, w4, w5⟩ := (widS_iff y x).1 hw
  obtain ⟨v1, v2, v3, v4, v5⟩ := (valC_iff x t ht).1 hv
  refine (valC_iff y t ht).2 ⟨w1, by omega, by omega, ?_, ?_⟩
  · rcases w5 with e | e | e
    · rw [e, List.all_eq_true]; exact fun b _ => isC_five b
    · rw [e.1, ← e.2]; exact v4
    · rw [List.all_eq_true] at v4 ⊢
      exact fun b hb => isC_mono (wid_class e.2.2.2 e.1 e.2.1 e.2.2.1) (v4 b hb)
  · intro e6
    rcases w5 with e | e | e
    · omega
    · exact v5 e.2
    · exact absurd e6 e.2.1
theorem isC_one : isC 1 = isDig := by funext b; simp [isC, isDig]
theorem all_one (l : List Int) : l.all (isC 1) = allD l := by rw [isC_one]; rfl
theorem padD_ok {t : ByteArray} {w : Int} (h : (padD t w).2 = true) : 1 ≤ w ∧ w ≤ 999 ∧ (((padD t w).1).size : Int) = w ∧ allD (bl (padD t w).1) = true := by
  by_cases hc : 1 ≤ t.size ∧ t.size ≤ 999 ∧ allD (bl t) = true ∧ 1 ≤ w ∧ w ≤ 999
  · rw [padD_t hc] at h ⊢
    by_cases h4 : (t.size : Int) ≤ w
    · rw [decide_eq_true h4, cond_true]
      have hd : allD (List.replicate (w - t.size).toNat 48 ++ bl t) = true := by
        have e : allD (List.replicate (w - t.size).toNat 48 ++ bl t) = (allD (List.replicate (w - t.size).toNat 48) && allD (bl t)) := List.all_append ..
        have e2 : allD (List.replicate (w - t.size).toNat 48) = true := by
          rw [allD, List.all_eq_true]
          intro x hx
          rw [(List.mem_replicate.1 hx).2]; rfl
        rw [e, e2, hc.2.2.1]; rfl
      refine ⟨hc.2.2.2.1, hc.2.2.2.2, ?_, ?_⟩
      · rw [strOf_size, List.length_append, List.length_replicate, bl_length]; omega
      · rw [bl_strOf (dig_byte hd)]; exact hd
    · rw [decide_eq_false h4, cond_false] at h ⊢
      cases hz : allZ ((bl t).take (t.size - w.toNat)) with
      | false => rw [hz] at h; cases h
      | true =>
        rw [cond_true]
        have hd : allD ((bl t).drop (t.size - w.toNat)) = true := by
          rw [allD, List.all_eq_true]
          intro x hx
          exact List.all_eq_true.1 hc.2.2.1 x (List.mem_of_mem_drop hx)
        refine ⟨hc.2.2.2.1, hc.2.2.2.2, ?_, ?_⟩
        · rw [strOf_size, List.length_drop, bl_length]; omega
        · rw [bl_strOf (dig_byte hd)]; exact hd
  · rw [padD_f hc] at h; cases h
theorem padS_facts {s : Spec} (h : padS s = true) : s.2.1 = 1 ∧ s.2.2.1 = 1 := by
  unfold padS at h
  rw [Bool.and_eq_true, decide_eq_true_eq, decide_eq_true_eq] at h
  exact h
abbrev val0 : Val := (0, bs [], ())
def applyR (r : Rule) (b : Schema) (t : ByteArray) : Val × Int :=
  bif decide (r.1 = 1) then ((r.2.2.1, t, ()), 0) else bif decide (r.1 = 2) then (val0, 0) else bif decide (r.1 = 3) then ((r.2.2.1, r.2.2.2.1, ()), 0)
  else bif decide (r.1 = 4) then (bif !hasS b r.2.2.1 then (val0, 9) else bif !(padD t (getS b r.2.2.1).2.2.2.1).2 then (val0, 5) else ((r.2.2.1, (padD t (getS b r.2.2.1).2.2.2.1).1, ()), 0))
  else bif decide (r.1 = 5) then (bif !(applyP r.2.2.2.2.1 t).2 then (val0, 15) else ((r.2.2.1, (applyP r.2.2.2.2.1 t).1, ()), 0)) else (val0, 1)
theorem ruleApply_eq (r : Rule) (b : Schema) (t : ByteArray) (hp : r.2.2.2.2.1.length ≤ maxLen) (hb : b.2.2.1.length ≤ maxLen) (ht : t.size ≤ maxLen) : rule_Apply r b t = some (applyR r b t) := by
  unfold rule_Apply rule_Apply_s0 applyR
  rw [Find_eq2 b _ hb, Option.bind_some, Pad_eq t _ ht, Option.bind_some, codesApply_eq _ _ hp, Option.bind_some]
  generalize decide (r.1 = 1) = k1
  generalize decide (r.1 = 2) = k2
  generalize decide (r.1 = 3) = k3
  generalize decide (r.1 = 4) = k4
  generalize decide (r.1 = 5) = k5
  generalize hasS b r.2.2.1 = h
  generalize padD t (getS b r.2.2.1).2.2.2.1 = p
  generalize applyP r.2.2.2.2.1 t = q
  obtain ⟨p1, p2⟩ := p
  obtain ⟨q1, q2⟩ := q
  cases k1 <;> cases k2 <;> cases k3 <;> cases k4 <;> cases k5 <;> cases h <;> cases p2 <;> cases q2 <;> rfl
theorem getS_mem {s : Schema} {no : Int} (h : hasS s no = true) : getS s no ∈ s.2.2.1 ∧ (getS s no).1 = no := by
  unfold hasS at h
  unfold getS
  cases hf : findS s.2.2.1 no with
  | none => rw [hf] at h; cases h
  | some x =>
    unfold findS at hf
    exact ⟨List.mem_of_find?_eq_some hf, by simpa using List.find?_some hf⟩
theorem okay_spec {s : Schema} (h : Okay s) {no : Int} (hh : hasS s no = true) : specC (getS s no) = 0 := h.2.2.2.1 _ (getS_mem hh).1
theorem applyP_mem {l : List Pair} {t : ByteArray} (h : (applyP l t).2 = true) : ∃ p ∈ l, p.1 = t ∧ (applyP l t).1 = p.2.1 := by
  unfold applyP at h ⊢
  cases hf : l.find? fun p => decide (p.1 = t) with
  | none => rw [hf] at h; cases h
  | some p => exact ⟨p, List.mem_of_find?_eq_some hf, by simpa using List.find?_some hf, rfl⟩
theorem valsC_mem : ∀ {l : List Pair} {x y : Spec}, valsC l x y = 0 → ∀ p ∈ l, valC x p.1 = 0 ∧ valC y p.2.1 = 0
  | [], x, y, h, p, hp => by cases hp
  | q :: l, x, y, h, p, hp => by
    unfold valsC at h
    by_cases h1 : valC x q.1 = 0
    · rw [decide_eq_true h1, Bool.not_true, cond_false] at h
      by_cases h2 : valC y q.2.1 = 0
      · rw [decide_eq_true h2, Bool.not_true, cond_false] at h
        rcases List.mem_cons.1 hp with rfl | hp
        · exact ⟨h1, h2⟩
        · exact valsC_mem h p hp
      · rw [decide_eq_false h2, Bool.not_false, cond_true] at h; exact absurd h h2
    · rw [decide_eq_false h1, Bool.not_false, cond_true] at h; exact absurd h h1
theorem ruleC_zero {r : Rule} {a b : Schema} (h : ruleC r a b = 0) : (1 ≤ r.1 ∧ r.1 ≤ 5) ∧ endsE r a b = false ∧ textE r = false ∧ kindC r (getS a r.2.1) (getS b r.2.2.1) = 0 := by
  unfold ruleC at h
  by_cases c1 : r.1 < 1
  · rw [decide_eq_true c1] at h; cases h
  by_cases c2 : 5 < r.1
  · rw [decide_eq_true c2, Bool.or_true] at h; cases h
  rw [decide_eq_false c1, decide_eq_false c2, Bool.or_false, cond_false] at h
  cases he : endsE r a b with
  | true => rw [he] at h; cases h
  | false =>
    rw [he, cond_false] at h
    cases ht : textE r with
    | true => rw [ht] at h; cases h
    | false => rw [ht, cond_false] at h; exact ⟨by omega, rfl, rfl, h⟩
theorem ends_zero {r : Rule} {a b : Schema} (h : endsE r a b = false) : (r.1 = 3 → r.2.1 = 0) ∧ (r.1 ≠ 3 → hasS a r.2.1 = true) ∧ (r.1 = 2 → r.2.2.1 = 0) ∧ (r.1 ≠ 2 → hasS b r.2.2.1 = true) := by
  unfold endsE at h
  rw [Bool.or_eq_false_iff] at h
  obtain ⟨h1, h2⟩ := h
  refine ⟨fun e => ?_, fun e => ?_, fun e => ?_, fun e => ?_⟩
  · rw [decide_eq_true e, cond_true] at h1; simpa using h1
  · rw [decide_eq_false e, cond_false] at h1; simpa using h1
  · rw [decide_eq_true e, cond_true] at h2; simpa using h2
  · rw [decide_eq_false e, cond_false] at h2; simpa using h2
theorem apply_valid {r : Rule} {a b : Schema} {t : ByteArray} (ht : t.size ≤ 1099511627776) (hr : RuleOk r) (hc : ruleC r a b = 0) (hb : Okay b) (hv : hasS a r.2.1 = true → valC (getS a r.2.1) t = 0) :
    ((applyR r b t).2 ≠ 0 → ((r.1 = 4 ∧ (applyR r b t).2 = 5) ∨ (r.1 = 5 ∧ (applyR r b t).2 = 15)) ∧ (applyR r b t).1 = val0) ∧
    ((applyR r b t).2 = 0 → (r.1 = 2 → (applyR r b t).1 = val0) ∧ (r.1 ≠ 2 → (applyR r b t).1.1 = r.2.2.1 ∧ hasS b r.2.2.1 = true ∧ valC (getS b r.2.2.1) (applyR r b t).1.2.1 = 0)) := by
  obtain ⟨c1, c2, c3, c4⟩ := ruleC_zero hc
  obtain ⟨e1, e2, e3, e4⟩ := ends_zero c2
  unfold kindC at c4
  have hk : r.1 = 1 ∨ r.1 = 2 ∨ r.1 = 3 ∨ r.1 = 4 ∨ r.1 = 5 := by omega
  unfold applyR
  rcases hk with k | k | k | k | k
  · rw [decide_eq_true k, cond_true] at c4 ⊢
    refine ⟨fun h => absurd rfl h, fun _ => ⟨fun e => by omega, fun _ => ⟨rfl, e4 (by omega), ?_⟩⟩⟩
    cases hw : widS (getS b r.2.2.1) (getS a r.2.1) with
    | false => rw [hw] at c4; cases c4
    | true => exact valC_wider ht hw (hv (e2 (by omega)))
  · rw [decide_eq_false (by omega : ¬ r.1 = 1), decide_eq_true k, cond_false, cond_true]
    exact ⟨fun h => absurd rfl h, fun _ => ⟨fun _ => rfl, fun e => absurd k e⟩⟩
  · rw [decide_eq_false (by omega : ¬ r.1 = 1), decide_eq_true k, cond_false, cond_true] at c4
    rw [decide_eq_false (by omega : ¬ r.1 = 1), decide_eq_false (by omega : ¬ r.1 = 2), decide_eq_true k, cond_false, cond_false, cond_true]
    exact ⟨fun h => absurd rfl h, fun _ => ⟨fun e => by omega, fun _ => ⟨rfl, e4 (by omega), c4⟩⟩⟩
  · rw [decide_eq_false (by omega : ¬ r.1 = 1), decide_eq_false (by omega : ¬ r.1 = 3), decide_eq_true k, cond_false, cond_false, cond_true] at c4
    rw [decide_eq_false (by omega : ¬ r.1 = 1), decide_eq_false (by omega : ¬ r.1 = 2), decide_eq_false (by omega : ¬ r.1 = 3), decide_eq_true k, cond_false, cond_false, cond_false, cond_true, e4 (by omega), Bool.not_true, cond_false]
    have hy := okay_spec hb (e4 (by omega))
    have hpd : padS (getS b r.2.2.1) = true := by
      cases hp : (padS (getS a r.2.1) && padS (getS b r.2.2.1)) with
      | false => rw [hp] at c4; cases c4
      | true => exact (Bool.and_eq_true_iff.1 hp).2
    obtain ⟨y1, y2⟩ := padS_facts hpd
    obtain ⟨_, _, _, f4, f5, _⟩ := specC_facts hy
    cases hp : (padD t (getS b r.2.2.1).2.2.2.1).2 with
    | false => exact ⟨fun _ => ⟨.inl ⟨k, rfl⟩, rfl⟩, fun e => by cases e⟩
    | true =>
      obtain ⟨p1, p2, p3, p4⟩ := padD_ok hp
      rw [Bool.not_true, cond_false]
      refine ⟨fun h => absurd rfl h, fun _ => ⟨fun e => by omega, fun _ => ⟨rfl, rfl, ?_⟩⟩⟩
      have := f5 y2
      refine (valC_iff _ _ (by show (padD t (getS b r.2.2.1).2.2.2.1).1.size ≤ 1099511627776; omega)).2 ⟨hy, ?_, ?_, ?_, fun e => by omega⟩
      · show _ ≤ ((padD t (getS b r.2.2.1).2.2.2.1).1.size : Int); omega
      · show ((padD t (getS b r.2.2.1).2.2.2.1).1.size : Int) ≤ _; omega
      · rw [y1, all_one]; exact p4
  · rw [decide_eq_false (by omega : ¬ r.1 = 1), decide_eq_false (by omega : ¬ r.1 = 3), decide_eq_false (by omega : ¬ r.1 = 4), decide_eq_true k, cond_false, cond_false, cond_false, cond_true] at c4
    rw [decide_eq_false (by omega : ¬ r.1 = 1), decide_eq_false (by omega : ¬ r.1 = 2), decide_eq_false (by omega : ¬ r.1 = 3), decide_eq_false (by omega : ¬ r.1 = 4), decide_eq_true k, cond_false, cond_false, cond_false, cond_false, cond_true]
    unfold tableR at c4
    cases hp : (applyP r.2.2.2.2.1 t).2 with
    | false => exact ⟨fun _ => ⟨.inr ⟨k, rfl⟩, rfl⟩, fun e => by cases e⟩
    | true =>
      rw [Bool.not_true, cond_false]
      refine ⟨fun h => absurd rfl h, fun _ => ⟨fun e => by omega, fun _ => ⟨rfl, e4 (by omega), ?_⟩⟩⟩
      obtain ⟨p, hm, _, hq⟩ := applyP_mem hp
      show valC _ (applyP r.2.2.2.2.1 t).1 = 0
      rw [hq]
      cases hz : (!decide ((tableC r.2.2.2.2.1).1 = 0) || decide ((r.2.2.2.2.1.length : Int) = 0)) with
      | true => rw [hz] at c4; cases c4
      | false => rw [hz, cond_false] at c4; exact (valsC_mem c4 p hm).2
end Groat
set_option linter.unusedVariables false
set_option linter.unusedSimpArgs false
namespace Groat
open Go Go.Ref
abbrev Map := List Pair × List Rule × Unit
structure MapOk (m : Map) : Prop where
  mtis : PairsOk m.1
  len : m.2.1.length ≤ 1000000
  rules : ∀ r ∈ m.2.1, RuleOk r
def mtisC (a b : Schema) : List ByteArray → List Pair → Int → Option (Int × Int)
  | _, [], _ => none
  | seen, p :: r, i => if typedP p a b = true then (if p.1 ∈ seen then some (10, i) else mtisC a b (seen ++ [p.1]) r (i + 1)) else some (7, i)
abbrev Xr := Sum (Int × Int × Int × Map × Schema × Schema) (Map × Schema × Schema)
def mtisR (m : Map) (a b : Schema) (o : Option (Int × Int)) : Option Xr := some (match o with
  | some e => .inl (e.1, 2, e.2, m, a, b)
  | none => .inr (m, a, b))
theorem mtis_run (m : Map) (a b : Schema) : ∀ (l : List Pair) (i : Int) (seen : List ByteArray), (∀ p ∈ l, p.1.size ≤ 1099511627776 ∧ p.2.1.size ≤ 1099511627776) →
    runI (fun i (x : Pair) (s : List Zt3) K => ((xlate_typed x a b).bind fun r2 => (bif (!r2) then some (Sum.inl ((7 : Int), (2 : Int), i, m, a, b)) else (bif mget (eqK .str) false s x.1 then some (Sum.inl ((10 : Int), (2 : Int), i, m, a, b)) else (bif mhas (eqK .str) s x.1 then none else K (s ++ [(x.1, true)])))))) (fun _ => some (Sum.inr (m, a, b))) l i (seenM seen) = mtisR m a b (mtisC a b seen l i)
  | [], i, seen, _ => rfl
  | p :: r, i, seen, h => by
    obtain ⟨h1, h2⟩ := h p List.mem_cons_self
    simp only [runI, mtisC]
    rw [typed_eq p a b (by rw [maxLen_eq]; omega) (by rw [maxLen_eq]; omega), Option.bind_some]
    cases typedP p a b with
    | false => rw [if_neg (by simp)]; rfl
    | true =>
      rw [if_pos rfl]
      simp only [Bool.not_true, cond_false]
      have e1 := mget_seen (eqK .str) (fun _ _ => rfl) p.1 seen
      have e2 := mhas_seen (eqK .str) (fun _ _ => rfl) p.1 seen
      by_cases hm : p.1 ∈ seen
      · rw [e1.2 hm, if_pos hm]; rfl
      · rw [not_true' e1 hm, not_true' e2 hm, if_neg hm, cond_false, cond_false, seenM_append]
        exact mtis_run m a b r (i + 1) (seen ++ [p.1]) fun q hq => h q (List.mem_cons_of_mem _ hq)
theorem mtis_loop (m : Map) (a b : Schema) (h : PairsOk m.1) : xlate_Check_l1 FUEL m.1 (m.1.length : Int) 0 m a b [] = mtisR m a b (mtisC a b [] m.1 0) := by
  have hl := h.len
  have := loopI pair0 m.1 (by rw [maxLen_eq]; omega) (fun i (x : Pair) (s : List Zt3) K => ((xlate_typed x a b).bind fun r2 => (bif (!r2) then some (Sum.inl ((7 : Int), (2 : Int), i, m, a, b)) else (bif mget (eqK .str) false s x.1 then some (Sum.inl ((10 : Int), (2 : Int), i, m, a, b)) else (bif mhas (eqK .str) s x.1 then none else K (s ++ [(x.1, true)])))))) (fun _ => some (Sum.inr (m, a, b)))
    (fun k i s => xlate_Check_l1 k m.1 (m.1.length : Int) i m a b s) (fun k i s => rfl) []
  rw [this]
  exact mtis_run m a b m.1 0 [] h.sz
theorem applyP_in (f : ByteArray) (l : List Pair) : (applyP l f).2 = true ↔ f ∈ l.map fun p => p.1 := by
  unfold applyP
  induction l with
  | nil => simp
  | cons p r ih =>
    rw [List.find?_cons, List.map_cons, List.mem_cons]
    by_cases h : p.1 = f
    · rw [decide_eq_true h]; exact ⟨fun _ => .inl h.symm, fun _ => rfl⟩
    · rw [decide_eq_false h]
      exact ih.trans ⟨.inr, fun h' => h'.resolve_left fun e => h e.symm⟩
theorem mtis21_loop (m : Map) (a b : Schema) (h : PairsOk m.1) : ∀ (n j k : Nat), j + n = m.1.length → n < k → r21_Check_l0 k (j : Int) m a b = mtisR m a b (mtisC a b ((m.1.take j).map fun p => p.1) (m.1.drop j) j)
  | n, j, 0, _, hk => by omega
  | 0, j, k + 1, hj, hk => by
    unfold r21_Check_l0 r21_Check_s1
    rw [decide_eq_false (by omega), show m.1.drop j = [] from List.drop_eq_nil_of_le (by omega)]; rfl
  | n + 1, j, k + 1, hj, hk => by
    have hl := h.len
    have hlt : j < m.1.length := by omega
    obtain ⟨h1, h2⟩ := h.sz _ (List.getElem_mem hlt)
    have hg : ∀ d, m.1.getD j d = m.1[j] := fun d => by rw [List.getD_eq_getElem?_getD, List.getElem?_eq_getElem hlt]; rfl
    unfold r21_Check_l0 r21_Check_s1
    rw [decide_eq_true (by omega), cond_true, within_nat_lt hlt, Int.toNat_natCast, hg, version21_eq _ _ (by rw [maxLen_eq]; omega), Option.bind_some, List.drop_eq_getElem_cons hlt]
    simp only [mtisC]
    cases v1 : versM m.1[j].1 a.2.1 with
    | false =>
      have : typedP m.1[j] a b = false := by unfold typedP; rw [v1]; rfl
      rw [this, if_neg (by simp)]; rfl
    | true =>
      simp only [Bool.not_true, cond_false]
      rw [version21_eq _ _ (by rw [maxLen_eq]; omega), Option.bind_some]
      cases v2 : versM m.1[j].2.1 b.2.1 with
      | false =>
        have : typedP m.1[j] a b = false := by unfold typedP; rw [v1, v2]; rfl
        rw [this, if_neg (by simp)]; rfl
      | true =>
        simp only [Bool.not_true, cond_false]
        rw [Request15_eq _ (by rw [maxLen_eq]; omega), Option.bind_some, Request15_eq _ (by rw [maxLen_eq]; omega), Option.bind_some]
        cases v3 : (reqM m.1[j].1 == reqM m.1[j].2.1) with
        | false =>
          have : typedP m.1[j] a b = false := by unfold typedP; rw [v1, v2, v3]; rfl
          rw [this, if_neg (by simp)]; rfl
        | true =>
          have : typedP m.1[j] a b = true := by unfold typedP; rw [v1, v2, v3]; rfl
          rw [this, if_pos rfl]
          simp only [Bool.not_true, cond_false]
          rw [decide_eq_true (by omega : (0 : Int) ≤ (j : Int)), decide_eq_true (by omega : (j : Int) ≤ ((m.1.length : Nat) : Int)), cond_true, cond_true, List.drop_zero, Apply19_eq _ _ (by rw [List.length_take, maxLen_eq]; omega), Option.bind_some]
          have hm := applyP_in m.1[j].1 (m.1.take j)
          by_cases hin : m.1[j].1 ∈ (m.1.take j).map fun p => p.1
          · rw [hm.2 hin, if_pos hin]; rfl
          · rw [not_true' hm hin, if_neg hin, cond_false, i64_succ (by omega), mtis21_loop m a b h n (j + 1) k (by omega) (by omega)]
            congr 2
            rw [List.take_add_one, List.getElem?_eq_getElem hlt, List.map_append]
            rfl
def twiceR (x y : Rule) : Bool := (!decide (x.2.1 = 0) && decide (x.2.1 = y.2.1)) || (!decide (x.2.2.1 = 0) && decide (x.2.2.1 = y.2.2.1))
theorem twice_eq (x y : Rule) : r21_twice x y = some (twiceR x y) := by
  unfold r21_twice r21_twice_s0 twiceR
  generalize decide (x.2.1 = 0) = c1
  generalize decide (x.2.1 = y.2.1) = c2
  generalize decide (x.2.2.1 = 0) = c3
  generalize decide (x.2.2.1 = y.2.2.1) = c4
  cases c1 <;> cases c2 <;> cases c3 <;> cases c4 <;> rfl
def rulesC (a b : Schema) : List Rule → List Rule → Int → Option (Int × Int)
  | _, [], _ => none
  | prev, r :: l, i => if ruleC r a b = 0 then (if prev.any (fun q => twiceR q r) = true then some (10, i) else rulesC a b (prev ++ [r]) l (i + 1)) else some (ruleC r a b, i)
def rulesR (o : Option (Int × Int)) : Option (Sum Zt0 Unit) := some (match o with
  | some e => .inl (e.1, 3, e.2)
  | none => .inr ())
def twiceX (m : Map) (a b : Schema) (i : Int) (t : Bool) : Sum (Int × Int × Int × Int × Map × Schema × Schema) (Int × Map × Schema × Schema) := bif t then .inl (10, 3, i, i, m, a, b) else .inr (i, m, a, b)
theorem rule_at {m : Map} {j : Nat} (hlt : j < m.2.1.length) (d : Rule) : m.2.1.getD j d = m.2.1[j] := by
  rw [List.getD_eq_getElem?_getD, List.getElem?_eq_getElem hlt]; rfl
theorem twice_loop (m : Map) (a b : Schema) (i : Nat) (hi : i < m.2.1.length) (hl : m.2.1.length ≤ 1000000) : ∀ (n j k : Nat), j + n = i → n < k → r21_Check_l2 k (i : Int) (j : Int) m a b = some (twiceX m a b i (((m.2.1.take i).drop j).any fun q => twiceR q m.2.1[i]))
  | n, j, 0, _, hk => by omega
  | 0, j, k + 1, hj, hk => by
    have : j = i := by omega
    subst this
    unfold r21_Check_l2 r21_Check_s7
    rw [decide_eq_false (by omega), List.drop_eq_nil_of_le (by rw [List.length_take]; omega)]; rfl
  | n + 1, j, k + 1, hj, hk => by
    have hlt : j < m.2.1.length := by omega
    unfold r21_Check_l2 r21_Check_s7
    have hd : (m.2.1.take i).drop j = m.2.1[j] :: (m.2.1.take i).drop (j + 1) := by
      rw [List.drop_eq_getElem_cons (by rw [List.length_take]; omega)]
      congr 1
      rw [List.getElem_take]
    rw [decide_eq_true (by omega), cond_true, within_nat_lt hlt, within_nat_lt hi, Int.toNat_natCast, Int.toNat_natCast, rule_at hlt, rule_at hi, twice_eq, Option.bind_some, hd, List.any_cons]
    cases twiceR m.2.1[j] m.2.1[i] with
    | true => rfl
    | false =>
      rw [cond_false, i64_succ (by omega)]
      dsimp only
      rw [twice_loop m a b i hi hl n (j + 1) k (by omega) (by omega), Bool.false_or]
theorem rules21_loop (m : Map) (a b : Schema) (h : MapOk m) (ha : a.2.2.1.length ≤ maxLen) (hb : b.2.2.1.length ≤ maxLen) : ∀ (n j k : Nat), j + n = m.2.1.length → n < k → r21_Check_l1 k (j : Int) m a b = rulesR (rulesC a b (m.2.1.take j) (m.2.1.drop j) j)
  | n, j, 0, _, hk => by omega
  | 0, j, k + 1, hj, hk => by
    unfold r21_Check_l1 r21_Check_s4
    rw [decide_eq_false (by omega), List.drop_eq_nil_of_le (by omega)]; rfl
  | n + 1, j, k + 1, hj, hk => by
    have hl := h.len
    have hlt : j < m.2.1.length := by omega
    unfold r21_Check_l1 r21_Check_s4
    rw [decide_eq_true (by omega), cond_true, within_nat_lt hlt, Int.toNat_natCast, rule_at hlt, Check20_eq _ a b (h.rules _ (List.getElem_mem hlt)) ha hb, Option.bind_some, List.drop_eq_getElem_cons hlt]
    simp only [rulesC]
    by_cases z : ruleC m.2.1[j] a b = 0
    · rw [decide_eq_true z, if_pos z]
      simp only [Bool.not_true, cond_false]
      have ht := twice_loop m a b j hlt hl j 0 FUEL (by omega) (by rw [fuel_eq]; omega)
      rw [show ((0 : Nat) : Int) = (0 : Int) from rfl, List.drop_zero] at ht
      rw [ht, Option.bind_some]
      cases (m.2.1.take j).any fun q => twiceR q m.2.1[j] with
      | true => rw [if_pos rfl]; rfl
      | false =>
        rw [if_neg (by simp)]
        unfold twiceX r21_Check_s9
        simp only [cond_false, Sum.elim_inr]
        rw [i64_succ (by omega), rules21_loop m a b h ha hb n (j + 1) k (by omega) (by omega)]
        congr 2
        rw [List.take_add_one, List.getElem?_eq_getElem hlt]
        rfl
    · rw [decide_eq_false z, if_neg z]; rfl
def mapC (m : Map) (a b : Schema) : Int × Int × Int :=
  if (schemaC a).1 = 0 then (if (schemaC b).1 = 0 then (if 256 < m.1.length then (5, 2, 256) else match mtisC a b [] m.1 0 with
    | some e => (e.1, 2, e.2)
    | none => if 256 < m.2.1.length then (5, 3, 256) else match rulesC a b [] m.2.1 0 with
      | some e => (e.1, 3, e.2)
      | none => (0, 0, 0)) else (1, 1, 1)) else (1, 1, 0)
theorem Check21_eq (m : Map) (a b : Schema) (h : MapOk m) (ha : a.2.2.1.length ≤ maxLen) (hb : b.2.2.1.length ≤ maxLen) : r21_Check m a b = some (mapC m a b) := by
  have h1 := h.mtis.len
  have h2 := h.len
  unfold r21_Check r21_Check_s0 mapC
  rw [Right13_eq a ha, Option.bind_some]
  by_cases za : (schemaC a).1 = 0
  · rw [decide_eq_true za, if_pos za]
    simp only [Bool.not_true, cond_false]
    rw [Right13_eq b hb, Option.bind_some]
    by_cases zb : (schemaC b).1 = 0
    · rw [decide_eq_true zb, if_pos zb]
      simp only [Bool.not_true, cond_false]
      by_cases hm : 256 < m.1.length
      · rw [decide_eq_true (by omega), if_pos hm]; rfl
      · rw [decide_eq_false (by omega), if_neg hm, cond_false]
        have e1 := mtis21_loop m a b h.mtis m.1.length 0 FUEL (by omega) (by rw [fuel_eq]; omega)
        rw [show ((0 : Nat) : Int) = (0 : Int) from rfl, List.take_zero, List.drop_zero, List.map_nil] at e1
        rw [e1]
        unfold mtisR
        cases mtisC a b [] m.1 0 with
        | some e => rfl
        | none =>
          simp only [Option.bind_some, Sum.elim_inr]
          unfold r21_Check_s3
          by_cases hr : 256 < m.2.1.length
          · rw [decide_eq_true (by omega), if_pos hr]; rfl
          · rw [decide_eq_false (by omega), if_neg hr, cond_false]
            have e2 := rules21_loop m a b h ha hb m.2.1.length 0 FUEL (by omega) (by rw [fuel_eq]; omega)
            rw [show ((0 : Nat) : Int) = (0 : Int) from rfl, List.take_zero, List.drop_zero] at e2
            dsimp only
            rw [e2]
            unfold rulesR
            cases rulesC a b [] m.2.1 0 <;> rfl
    · rw [decide_eq_false zb, if_neg zb]; rfl
  · rw [decide_eq_false za, if_neg za]; rfl
end Groat
set_option linter.unusedVariables false
set_option linter.unusedSimpArgs false
namespace Groat
open Go Go.Ref
theorem setH_snoc (l : List Int) (f : Int) : setH (l ++ [f]) = setH l ||| setH [f] := by simp [setH, List.foldl_append]
theorem setL_snoc (l : List Int) (f : Int) : setL (l ++ [f]) = setL l ||| setL [f] := by simp [setL, List.foldl_append]
theorem both_zero (fs : List Int) (f : Int) : (setH fs &&& setH [f] = 0 ∧ setL fs &&& setL [f] = 0) ↔ ¬ (f ∈ fs ∧ inR f = true) := by
  constructor
  · rintro ⟨h1, h2⟩ ⟨h3, h4⟩
    have := has_and (setH fs) (setL fs) (setH [f]) (setL [f]) f
    rw [h1, h2, hasN_zero, set_has, set_has, h4] at this
    simp [h3] at this
  · intro h
    refine set_ext (and_lt (setH_lt fs)) (and_lt (setL_lt fs)) (by decide) (by decide) fun n _ _ => ?_
    rw [hasN_zero, has_and, set_has, set_has]
    by_cases e : n = f
    · subst e
      cases hr : inR n with
      | false => simp
      | true =>
        have : n ∉ fs := fun hm => h ⟨hm, hr⟩
        simp [this]
    · simp [e]
theorem zero_dec (x y : Nat) : (decide (((x : Nat) : Int) = 0) && (decide (((y : Nat) : Int) = 0) && true)) = decide (x = 0 ∧ y = 0) := by
  rw [Bool.and_true, ← Bool.decide_and]
  exact decide_eq_decide.2 (by omega)
theorem has_range' {s : Schema} (h : Okay s) {no : Int} (hh : hasS s no = true) : inR no = true := by
  unfold hasS findS at hh
  obtain ⟨x, hx⟩ := Option.isSome_iff_exists.1 hh
  have h1 := List.find?_some hx
  have h2 := List.mem_of_find?_eq_some hx
  have h3 := specC_no (h.2.2.2.1 x h2)
  have h4 : x.1 = no := of_decide_eq_true h1
  unfold inR
  exact decide_eq_true (by omega)
theorem rule_ends0 {r : Rule} {a b : Schema} (h : ruleC r a b = 0) : endsE r a b = false := by
  unfold ruleC at h
  cases hc : (decide (r.1 < 1) || decide ((5 : Int) < r.1)) with
  | true => rw [hc] at h; simp at h
  | false =>
    rw [hc] at h
    cases he : endsE r a b with
    | false => rfl
    | true => rw [he] at h; simp at h
theorem rule_inR {r : Rule} {a b : Schema} (ha : Okay a) (hb : Okay b) (h : ruleC r a b = 0) : (r.2.1 ≠ 0 → inR r.2.1 = true) ∧ (r.2.2.1 ≠ 0 → inR r.2.2.1 = true) := by
  have he := rule_ends0 h
  unfold endsE at he
  rw [Bool.or_eq_false_iff] at he
  refine ⟨fun hz => ?_, fun hz => ?_⟩
  · by_cases k : r.1 = 3
    · rw [decide_eq_true k, decide_eq_false hz] at he; simp at he
    · rw [decide_eq_false k] at he
      exact has_range' ha (by simpa using he.1)
  · by_cases k : r.1 = 2
    · rw [decide_eq_true k, decide_eq_false hz] at he; simp at he
    · rw [decide_eq_false k] at he
      exact has_range' hb (by simpa using he.2)
def froms (l : List Rule) : List Int := l.map fun q => q.2.1
def tos (l : List Rule) : List Int := l.map fun q => q.2.2.1
theorem inR_zero : inR 0 = false := by decide
theorem twice_any (prev : List Rule) (r : Rule) (h1 : r.2.1 ≠ 0 → inR r.2.1 = true) (h2 : r.2.2.1 ≠ 0 → inR r.2.2.1 = true) :
    prev.any (fun q => twiceR q r) = (!decide (¬ (r.2.1 ∈ froms prev ∧ inR r.2.1 = true)) || !decide (¬ (r.2.2.1 ∈ tos prev ∧ inR r.2.2.1 = true))) := by
  have e : prev.any (fun q => twiceR q r) = true ↔ ((r.2.1 ∈ froms prev ∧ inR r.2.1 = true) ∨ (r.2.2.1 ∈ tos prev ∧ inR r.2.2.1 = true)) := by
    rw [List.any_eq_true]
    unfold twiceR froms tos
    simp only [List.mem_map]
    constructor
    · rintro ⟨q, hq, h⟩
      simp only [Bool.or_eq_true, Bool.and_eq_true, Bool.not_eq_true', decide_eq_false_iff_not, decide_eq_true_eq] at h
      rcases h with ⟨g1, g2⟩ | ⟨g1, g2⟩
      · exact .inl ⟨⟨q, hq, g2⟩, h1 (by rw [← g2]; exact g1)⟩
      · exact .inr ⟨⟨q, hq, g2⟩, h2 (by rw [← g2]; exact g1)⟩
    · rintro (⟨⟨q, hq, g⟩, hr⟩ | ⟨⟨q, hq, g⟩, hr⟩)
      · refine ⟨q, hq, ?_⟩
        have : q.2.1 ≠ 0 := fun e => by rw [← g, e, inR_zero] at hr; cases hr
        rw [decide_eq_false this, decide_eq_true g]; rfl
      · refine ⟨q, hq, ?_⟩
        have : q.2.2.1 ≠ 0 := fun e => by rw [← g, e, inR_zero] at hr; cases hr
        rw [decide_eq_false this, decide_eq_true g]; simp
  cases hb : prev.any (fun q => twiceR q r) with
  | true =>
    rcases e.1 hb with h | h
    · rw [decide_eq_false (fun hn => hn h)]; rfl
    · rw [show decide (¬ (r.2.2.1 ∈ tos prev ∧ inR r.2.2.1 = true)) = false from decide_eq_false (fun hn => hn h)]; simp
  | false =>
    have hn := fun h => (by rw [hb] at e; exact absurd (e.2 h) (by simp) : False)
    rw [decide_eq_true (show ¬ (r.2.1 ∈ froms prev ∧ inR r.2.1 = true) from fun h => hn (.inl h)), decide_eq_true (show ¬ (r.2.2.1 ∈ tos prev ∧ inR r.2.2.1 = true) from fun h => hn (.inr h))]; rfl
abbrev S2 := Int × Int × Unit
def fsS (l : List Int) : S2 := ((setH l : Int), (setL l : Int), ())
theorem rules_run (a b : Schema) (ha : a.2.2.1.length ≤ maxLen) (hb : b.2.2.1.length ≤ maxLen) (oa : Okay a) (ob : Okay b) : ∀ (l : List Rule) (i : Int) (prev : List Rule), (∀ r ∈ l, RuleOk r) →
    runI (fun i (x : Rule) (s : S2 × S2) K => ((rule_Check x a b).bind fun r3 => (bif (!decide (r3 = 0)) then some (Sum.inl (r3, (3 : Int), i)) else ((fields_Of ([x.2.1] : List Int)).bind fun r4 => ((fields_Of ([x.2.2.1] : List Int)).bind fun r5 => ((fields_Set_Both s.1 r4).bind fun r6 => (bif (!(decide (r6.1 = 0) && (decide (r6.2.1 = 0) && true))) then some (Sum.inl ((10 : Int), (3 : Int), i)) else ((fields_Set_Both s.2 r5).bind fun r7 => (bif (!(decide (r7.1 = 0) && (decide (r7.2.1 = 0) && true))) then some (Sum.inl ((10 : Int), (3 : Int), i)) else ((fields_Set_Either s.1 r4).bind fun r8 => ((fields_Set_Either s.2 r5).bind fun r9 => K (r8, r9)))))))))))) (fun _ => some (Sum.inr ())) l i (fsS (froms prev), fsS (tos prev)) = rulesR (rulesC a b prev l i)
  | [], i, prev, _ => rfl
  | r :: l, i, prev, h => by
    simp only [runI, rulesC]
    rw [ruleCheck_eq r a b (h r List.mem_cons_self) ha hb, Option.bind_some]
    by_cases z : ruleC r a b = 0
    · rw [decide_eq_true z, if_pos z]
      simp only [Bool.not_true, cond_false]
      obtain ⟨i1, i2⟩ := rule_inR oa ob z
      have hany := twice_any prev r i1 i2
      rw [Of_eq _ (by simp [maxLen_eq]), Option.bind_some, Of_eq _ (by simp [maxLen_eq]), Option.bind_some]
      unfold fsS
      rw [Both_eq _ _ _ _ (setH_lt _) (setL_lt _) (setH_lt _) (setL_lt _), Option.bind_some]
      dsimp only
      rw [zero_dec, decide_eq_decide.2 (both_zero (froms prev) r.2.1)]
      by_cases c1 : ¬ (r.2.1 ∈ froms prev ∧ inR r.2.1 = true)
      · rw [decide_eq_true c1] at hany ⊢
        simp only [Bool.not_true, cond_false]
        rw [Both_eq _ _ _ _ (setH_lt _) (setL_lt _) (setH_lt _) (setL_lt _), Option.bind_some]
        dsimp only
        rw [zero_dec, decide_eq_decide.2 (both_zero (tos prev) r.2.2.1)]
        by_cases c2 : ¬ (r.2.2.1 ∈ tos prev ∧ inR r.2.2.1 = true)
        · rw [decide_eq_true c2] at hany ⊢
          rw [hany]
          simp only [Bool.not_true, cond_false, Bool.or_false]
          rw [if_neg (by simp), Either_eq _ _ _ _ (setH_lt _) (setL_lt _) (setH_lt _) (setL_lt _), Option.bind_some, Either_eq _ _ _ _ (setH_lt _) (setL_lt _) (setH_lt _) (setL_lt _), Option.bind_some]
          have := rules_run a b ha hb oa ob l (i + 1) (prev ++ [r]) (fun q hq => h q (List.mem_cons_of_mem _ hq))
          rw [show froms (prev ++ [r]) = froms prev ++ [r.2.1] by simp [froms], show tos (prev ++ [r]) = tos prev ++ [r.2.2.1] by simp [tos]] at this
          unfold fsS at this
          rw [setH_snoc, setL_snoc, setH_snoc, setL_snoc] at this
          exact this
        · rw [decide_eq_false c2] at hany ⊢
          rw [hany]; rfl
      · rw [decide_eq_false c1] at hany ⊢
        rw [hany]; rfl
    · rw [decide_eq_false z, if_neg z]; rfl
theorem schemas_loop (m : Map) (a b : Schema) (ha : a.2.2.1.length ≤ maxLen) (hb : b.2.2.1.length ≤ maxLen) : xlate_Check_l0 FUEL ([a, b] : List Schema) ((List.length ([a, b] : List Schema)) : Int) 0 m a b = some (if (schemaC a).1 = 0 then (if (schemaC b).1 = 0 then .inr (m, a, b) else .inl (1, 1, 1, m, a, b)) else .inl (1, 1, 0, m, a, b)) := by
  obtain ⟨k, hk⟩ := fuel3
  rw [hk]
  simp only [xlate_Check_l0, xlate_Check_s1]
  have w0 : ∀ {R : Type} (x : Option R), within 0 ([a, b] : List Schema).length x = x := fun x => within_int (by omega) (by simp)
  have w1 : ∀ {R : Type} (x : Option R), within 1 ([a, b] : List Schema).length x = x := fun x => within_int (by omega) (by simp)
  have e1 : IntKind.i64.wrap (0 + 1) = 1 := rfl
  have e2 : IntKind.i64.wrap (1 + 1) = 2 := rfl
  have d0 : decide ((0 : Int) < (([a, b] : List Schema).length : Int)) = true := rfl
  have d1 : decide ((1 : Int) < (([a, b] : List Schema).length : Int)) = true := rfl
  have d2 : decide ((2 : Int) < (([a, b] : List Schema).length : Int)) = false := rfl
  rw [d0, cond_true, w0, show List.getD ([a, b] : List Schema) (0 : Int).toNat ((0 : Int), (0 : Int), ([] : List Spec), ()) = a from rfl, Check_eq a ha, Option.bind_some]
  by_cases za : (schemaC a).1 = 0
  · rw [decide_eq_true za, if_pos za]
    simp only [Bool.not_true, cond_false]
    rw [e1, d1, cond_true, w1, show List.getD ([a, b] : List Schema) (1 : Int).toNat ((0 : Int), (0 : Int), ([] : List Spec), ()) = b from rfl, Check_eq b hb, Option.bind_some]
    by_cases zb : (schemaC b).1 = 0
    · rw [decide_eq_true zb, if_pos zb]
      simp only [Bool.not_true, cond_false]
      rw [e2, d2, cond_false]
    · rw [decide_eq_false zb, if_neg zb]; rfl
  · rw [decide_eq_false za, if_neg za]; rfl
abbrev rule0 : Rule := (0, 0, 0, bs [], [], ())
theorem xlateCheck_eq (m : Map) (a b : Schema) (h : MapOk m) (ha : a.2.2.1.length ≤ maxLen) (hb : b.2.2.1.length ≤ maxLen) : xlate_Check m a b = some (mapC m a b) := by
  have h1 := h.mtis.len
  have h2 := h.len
  unfold xlate_Check xlate_Check_s0 mapC
  dsimp only
  rw [schemas_loop m a b ha hb, Option.bind_some]
  by_cases za : (schemaC a).1 = 0
  · rw [if_pos za, if_pos za]
    by_cases zb : (schemaC b).1 = 0
    · rw [if_pos zb, if_pos zb]
      simp only [Sum.elim_inr]
      unfold xlate_Check_s3
      by_cases hm : 256 < m.1.length
      · rw [decide_eq_true (by omega), if_pos hm]; rfl
      · rw [decide_eq_false (by omega), if_neg hm, cond_false]
        dsimp only
        rw [mtis_loop m a b h.mtis]
        unfold mtisR
        cases mtisC a b [] m.1 0 with
        | some e => rfl
        | none =>
          simp only [Option.bind_some, Sum.elim_inr]
          unfold xlate_Check_s6
          by_cases hr : 256 < m.2.1.length
          · rw [decide_eq_true (by omega), if_pos hr]; rfl
          · rw [decide_eq_false (by omega), if_neg hr, cond_false]
            dsimp only
            have := loopI rule0 m.2.1 (by rw [maxLen_eq]; omega) (fun i (x : Rule) (s : S2 × S2) K => ((rule_Check x a b).bind fun r3 => (bif (!decide (r3 = 0)) then some (Sum.inl (r3, (3 : Int), i)) else ((fields_Of ([x.2.1] : List Int)).bind fun r4 => ((fields_Of ([x.2.2.1] : List Int)).bind fun r5 => ((fields_Set_Both s.1 r4).bind fun r6 => (bif (!(decide (r6.1 = 0) && (decide (r6.2.1 = 0) && true))) then some (Sum.inl ((10 : Int), (3 : Int), i)) else ((fields_Set_Both s.2 r5).bind fun r7 => (bif (!(decide (r7.1 = 0) && (decide (r7.2.1 = 0) && true))) then some (Sum.inl ((10 : Int), (3 : Int), i)) else ((fields_Set_Either s.1 r4).bind fun r8 => ((fields_Set_Either s.2 r5).bind fun r9 => K (r8, r9)))))))))))) (fun _ => some (Sum.inr ()))
              (fun k i s => xlate_Check_l2 k m.2.1 (m.2.1.length : Int) i a b s.1 s.2) (fun k i s => rfl) (fsS (froms []), fsS (tos []))
            have h3 := rules_run a b ha hb ((schemaC_ok a).1 za) ((schemaC_ok b).1 zb) m.2.1 0 [] h.rules
            rw [h3] at this
            have h4 : fsS (froms []) = ((0 : Int), (0 : Int), ()) := rfl
            have h5 : fsS (tos []) = ((0 : Int), (0 : Int), ()) := rfl
            rw [h4, h5] at this
            rw [this]
            unfold rulesR
            cases rulesC a b [] m.2.1 0 <;> rfl
    · rw [if_neg zb, if_neg zb]; rfl
  · rw [if_neg za, if_neg za]; rfl
end Groat
set_option linter.unusedVariables false
set_option linter.unusedSimpArgs false
namespace Groat
open Go Go.Ref
instance ruleDec : DecidableEq Rule := fun x y => decidable_of_iff ((decide (x.1 = y.1) && (decide (x.2.1 = y.2.1) && (decide (x.2.2.1 = y.2.2.1) && (decide (x.2.2.2.1 = y.2.2.2.1) && decide (x.2.2.2.2.1 = y.2.2.2.2.1))))) = true) (by obtain ⟨a1, a2, a3, a4, a5, u⟩ := x; obtain ⟨b1, b2, b3, b4, b5, v⟩ := y; simp)
instance mapDec : DecidableEq Map := fun x y => decidable_of_iff ((decide (x.1 = y.1) && decide (x.2.1 = y.2.1)) = true) (by obtain ⟨a1, a2, u⟩ := x; obtain ⟨b1, b2, v⟩ := y; simp)
def turnR (r : Rule) : Rule := (r.1, r.2.2.1, r.2.1, r.2.2.2.1, turnP r.2.2.2.2.1, ())
def turnM (m : Map) : Map := (turnP m.1, m.2.1.map turnR, ())
abbrev map0 : Map := ([], [], ())
theorem Copy20_eq (r : Rule) (h : RuleOk r) : r20_Copy r = some r := by
  unfold r20_Copy r20_Copy_s0
  rw [Copy19_eq _ h.pairs.len]; rfl
theorem copyM_run : ∀ (l : List Rule) (i : Int) (s : Map × Map), (∀ r ∈ l, RuleOk r) → s.2.2.1.length + l.length ≤ 1099511627776 →
    runI (fun i (x : Rule) (s : Map × Map) K => ((r20_Copy x).bind fun r2 => (bif (decide ((s.2.2.1.length + (List.length ([r2] : List Rule))) * 64 ≤ 140737488355328)) then K (s.1, (s.2.1, (s.2.2.1 ++ ([r2] : List Rule)), ())) else none))) (fun s => some s) l i s = some (s.1, (s.2.1, s.2.2.1 ++ l, ()))
  | [], i, s, _, _ => by simp only [runI, List.append_nil]
  | r :: l, i, s, h, hl => by
    simp only [List.length_cons] at hl
    simp only [runI]
    rw [Copy20_eq r (h r List.mem_cons_self), Option.bind_some, decide_eq_true (by simp; omega), cond_true]
    have := copyM_run l (i + 1) (s.1, (s.2.1, (s.2.2.1 ++ [r]), ())) (fun q hq => h q (List.mem_cons_of_mem _ hq)) (by simp; omega)
    refine Eq.trans this ?_
    simp
theorem Copy21_eq (m : Map) (h : MapOk m) : r21_Copy m = some m := by
  have hl := h.len
  unfold r21_Copy r21_Copy_s0
  dsimp only
  rw [Copy19_eq _ h.mtis.len, Option.bind_some]
  have := loopI rule0 m.2.1 (by rw [maxLen_eq]; omega) (fun i (x : Rule) (s : Map × Map) K => ((r20_Copy x).bind fun r2 => (bif (decide ((s.2.2.1.length + (List.length ([r2] : List Rule))) * 64 ≤ 140737488355328)) then K (s.1, (s.2.1, (s.2.2.1 ++ ([r2] : List Rule)), ())) else none))) (fun s => some s)
    (fun k i s => r21_Copy_l0 k i m s.1 s.2) (fun k i s => rfl) (map0, (m.1, [], ()))
  rw [copyM_run _ _ _ h.rules (by simp; omega)] at this
  rw [this]
  rfl
end Groat
set_option linter.unusedVariables false
set_option linter.unusedSimpArgs false
namespace Groat
open Go Go.Ref
structure Rule0 (r : Rule) (a b : Schema) : Prop where
  lo : ¬ r.1 < 1
  hi : ¬ (5 : Int) < r.1
  ends : endsE r a b = false
  text : textE r = false
  kind : kindC r (getS a r.2.1) (getS b r.2.2.1) = 0
theorem mtisC_none {a b : Schema} : ∀ {l : List Pair} {seen : List ByteArray} {i : Int}, mtisC a b seen l i = none ↔ (∀ p ∈ l, typedP p a b = true) ∧ dupP seen l i = none
  | [], seen, i => by simp [mtisC, dupP]
  | p :: r, seen, i => by
    simp only [mtisC, dupP, List.mem_cons, forall_eq_or_imp]
    cases ht : typedP p a b with
    | false => simp
    | true =>
      rw [if_pos rfl]
      by_cases hm : p.1 ∈ seen
      · simp [hm]
      · rw [if_neg hm, if_neg hm, mtisC_none]
        simp
def NoTwice : List Rule → List Rule → Prop
  | _, [] => True
  | prev, r :: l => prev.any (fun q => twiceR q r) = false ∧ NoTwice (prev ++ [r]) l
theorem rulesC_none {a b : Schema} : ∀ {l : List Rule} {prev : List Rule} {i : Int}, rulesC a b prev l i = none ↔ (∀ r ∈ l, ruleC r a b = 0) ∧ NoTwice prev l
  | [], prev, i => by simp [rulesC, NoTwice]
  | r :: l, prev, i => by
    simp only [rulesC, NoTwice, List.mem_cons, forall_eq_or_imp]
    by_cases z : ruleC r a b = 0
    · rw [if_pos z]
      cases hp : prev.any (fun q => twiceR q r) with
      | true => simp
      | false =>
        rw [if_neg (by simp), rulesC_none]
        simp [z]
    · rw [if_neg z]; simp [z]
theorem mtisC_some {a b : Schema} : ∀ {l : List Pair} {seen : List ByteArray} {i : Int} {e : Int × Int}, mtisC a b seen l i = some e → e.1 ≠ 0
  | p :: r, seen, i, e, h => by
    simp only [mtisC] at h
    split at h
    · split at h
      · cases h; simp
      · exact mtisC_some h
    · cases h; simp
theorem rulesC_some {a b : Schema} : ∀ {l : List Rule} {prev : List Rule} {i : Int} {e : Int × Int}, rulesC a b prev l i = some e → e.1 ≠ 0
  | r :: l, prev, i, e, h => by
    simp only [rulesC] at h
    split at h
    · split at h
      · cases h; simp
      · exact rulesC_some h
    · rename_i hz
      cases h; exact hz
structure Map0 (m : Map) (a b : Schema) : Prop where
  sa : (schemaC a).1 = 0
  sb : (schemaC b).1 = 0
  len1 : m.1.length ≤ 256
  typed : ∀ p ∈ m.1, typedP p a b = true
  dup : dupP [] m.1 0 = none
  len2 : m.2.1.length ≤ 256
  rules : ∀ r ∈ m.2.1, ruleC r a b = 0
  twice : NoTwice [] m.2.1
theorem map0_iff {m : Map} {a b : Schema} : (mapC m a b).1 = 0 ↔ Map0 m a b := by
  constructor
  · intro h
    unfold mapC at h
    split at h
    · split at h
      · rename_i h1 h2
        split at h
        · cases h
        · rename_i h3
          split at h
          · rename_i e he
            exact absurd h (mtisC_some he)
          · rename_i hm
            split at h
            · cases h
            · rename_i h4
              split at h
              · rename_i e he
                exact absurd h (rulesC_some he)
              · rename_i hr
                obtain ⟨g1, g2⟩ := mtisC_none.1 hm
                obtain ⟨g3, g4⟩ := rulesC_none.1 hr
                exact ⟨h1, h2, by omega, g1, g2, by omega, g3, g4⟩
      · cases h
    · cases h
  · intro h
    unfold mapC
    have e1 := mtisC_none.2 ⟨h.typed, h.dup⟩
    have e2 : rulesC a b [] m.2.1 0 = none := rulesC_none.2 ⟨h.rules, h.twice⟩
    have l1 := h.len1
    have l2 := h.len2
    rw [if_pos h.sa, if_pos h.sb, if_neg (by omega), e1]
    simp only
    rw [if_neg (by omega), e2]
theorem Map0.eq {m : Map} {a b : Schema} (h : Map0 m a b) : mapC m a b = (0, 0, 0) := by
  unfold mapC
  have e1 := mtisC_none.2 ⟨h.typed, h.dup⟩
  have e2 : rulesC a b [] m.2.1 0 = none := rulesC_none.2 ⟨h.rules, h.twice⟩
  have l1 := h.len1
  have l2 := h.len2
  rw [if_pos h.sa, if_pos h.sb, if_neg (by omega), e1]
  simp only
  rw [if_neg (by omega), e2]
theorem PairsOk.turn {l : List Pair} (h : PairsOk l) : PairsOk (turnP l) := ⟨by rw [turnP_len]; exact h.len, fun p hp => by
  unfold turnP at hp
  obtain ⟨q, hq, rfl⟩ := List.mem_map.1 hp
  exact ⟨(h.sz q hq).2, (h.sz q hq).1⟩⟩
theorem MapOk.turn {m : Map} (h : MapOk m) : MapOk (turnM m) := ⟨h.mtis.turn, by show (m.2.1.map turnR).length ≤ _; rw [List.length_map]; exact h.len, fun r hr => by
  obtain ⟨q, hq, rfl⟩ := List.mem_map.1 (show r ∈ m.2.1.map turnR from hr)
  exact ⟨(h.rules q hq).text, (h.rules q hq).pairs.turn⟩⟩
end Groat
set_option linter.unusedVariables false
set_option linter.unusedSimpArgs false
namespace Groat
open Go Go.Ref
theorem insV_len (l : List Val) (no : Int) (t : ByteArray) : (insV l no t).length = l.length + 1 := by
  unfold insV
  rcases idxGt_cases no l 0 (Int.le_refl _) with ⟨h1, _⟩ | h1
  · rw [h1, decide_eq_true (by omega : (-1 : Int) < 0), cond_true, List.length_append]; rfl
  · rw [decide_eq_false (by omega : ¬ idxGt no l 0 < 0), cond_false, List.length_append, List.length_take, List.length_cons, List.length_drop]
    omega
theorem withM_len (m : Msg) (no : Int) (t : ByteArray) : (withM m no t).2.1.length ≤ m.2.1.length + 1 := by
  show (insV (dropV m.2.1 no) no t).length ≤ _
  rw [insV_len]
  have := dropV_len m.2.1 no
  omega
theorem Head_eq (m : Map) (t : ByteArray) (h : m.1.length ≤ maxLen) : xlate_head m t = some (applyP m.1 t) := by
  unfold xlate_head xlate_head_s0
  dsimp only
  have := loopI pair0 m.1 h (fun i (x : Pair) (s : Unit) K => bif decide (x.1 = t) then some (Sum.inl (x.2.1, true)) else K s) (fun _ => some (Sum.inr ()))
    (fun k i s => xlate_head_l0 k t m.1 (m.1.length : Int) i) (fun k i s => rfl) ()
  rw [this, codesApply_run]
  unfold applyP
  cases m.1.find? fun p => decide (p.1 = t) <;> rfl
def findR (m : Map) (no : Int) : Option Rule := m.2.1.find? fun r => decide (r.2.1 = no)
def findX (o : Option Rule) : Option (Sum (Bool × Rule) Rule) := some (match o with
  | some r => .inl (true, r)
  | none => .inr rule0)
theorem find_run (no : Int) : ∀ (l : List Rule) (i : Int), runI (fun i (x : Rule) (s : Unit) K => (bif (decide (x.2.1 = no)) then some (Sum.inl (true, x)) else K s)) (fun _ => some (Sum.inr rule0)) l i () = findX (l.find? fun r => decide (r.2.1 = no))
  | [], i => rfl
  | x :: r, i => by
    rw [runI, List.find?_cons]
    cases hx : decide (x.2.1 = no) with
    | true => rfl
    | false => rw [cond_false]; exact find_run no r (i + 1)
theorem FindR_eq (m : Map) (no : Int) (h : m.2.1.length ≤ maxLen) : xlate_find m no = some (match findR m no with
  | some r => (r, true)
  | none => (rule0, false)) := by
  unfold xlate_find xlate_find_s0 findR
  dsimp only
  have := loopI rule0 m.2.1 h (fun i (x : Rule) (s : Unit) K => (bif (decide (x.2.1 = no)) then some (Sum.inl (true, x)) else K s)) (fun _ => some (Sum.inr rule0))
    (fun k i s => xlate_find_l0 k no m.2.1 (m.2.1.length : Int) i rule0) (fun k i s => rfl) ()
  rw [this, find_run]
  unfold findX
  cases m.2.1.find? fun r => decide (r.2.1 = no) <;> rfl
def constsM : List Rule → Msg → Msg
  | [], out => out
  | r :: l, out => constsM l (bif decide (r.1 = 3) then withM out r.2.2.1 r.2.2.2.1 else out)
theorem constsM_len : ∀ (l : List Rule) (out : Msg), (constsM l out).2.1.length ≤ out.2.1.length + l.length
  | [], out => Nat.le_refl _
  | r :: l, out => by
    rw [constsM, List.length_cons]
    cases decide (r.1 = 3) with
    | true => rw [cond_true]; have := constsM_len l (withM out r.2.2.1 r.2.2.2.1); have := withM_len out r.2.2.1 r.2.2.2.1; omega
    | false => rw [cond_false]; have := constsM_len l out; omega
theorem consts_run {ρ : Type} (fin : Msg → Option ρ) : ∀ (l : List Rule) (i : Int) (out : Msg), out.2.1.length + l.length ≤ 1000000 →
    runI (fun i (x : Rule) (s : Msg) K => (bif (decide (x.1 = (3 : Int))) then ((msg_With s x.2.2.1 x.2.2.2.1).bind fun r4 => K r4) else K s)) fin l i out = fin (constsM l out)
  | [], i, out, _ => rfl
  | r :: l, i, out, h => by
    simp only [List.length_cons] at h
    rw [runI, constsM]
    cases decide (r.1 = 3) with
    | true =>
      rw [cond_true, cond_true, MWith_eq out _ _ (by omega), some_bind]
      have := withM_len out r.2.2.1 r.2.2.2.1
      exact consts_run fin l (i + 1) _ (by omega)
    | false =>
      rw [cond_false, cond_false]
      exact consts_run fin l (i + 1) out (by omega)
def fieldsT (m : Map) (b : Schema) : List Val → Msg → Sum (Fault × Msg) Msg
  | [], out => .inr out
  | v :: r, out => match findR m v.1 with
    | none => .inl ((9, v.1, ()), out)
    | some q => bif !decide ((applyR q b v.2.1).2 = 0) then .inl (((applyR q b v.2.1).2, v.1, ()), out) else fieldsT m b r (bif !decide ((applyR q b v.2.1).1.1 = 0) then withM out (applyR q b v.2.1).1.1 (applyR q b v.2.1).1.2.1 else out)
abbrev msg0 : Msg := (bs [], [], ())
def fieldsTX (o : Sum (Fault × Msg) Msg) : Option (Sum (Msg × Fault × Msg) (Msg × Fault × Msg)) := some (match o with
  | .inl (f, out) => .inl (msg0, f, out)
  | .inr out => .inr (msg0, fault0, out))
theorem findR_mem {m : Map} {no : Int} {r : Rule} (h : findR m no = some r) : r ∈ m.2.1 ∧ r.2.1 = no := ⟨List.mem_of_find?_eq_some h, by simpa using List.find?_some h⟩
theorem fieldsT_run (m : Map) (b : Schema) (hm : MapOk m) (hb : b.2.2.1.length ≤ maxLen) : ∀ (l : List Val) (i : Int) (out : Msg), out.2.1.length + l.length ≤ 1000000 → (∀ v ∈ l, v.2.1.size ≤ 1099511627776) →
    runI (fun i (x : Val) (s : Msg) K => ((xlate_find m x.1).bind fun r5 => (bif (!r5.2) then some (Sum.inl (msg0, ((9 : Int), x.1, ()), s)) else ((rule_Apply r5.1 b x.2.1).bind fun r6 => (bif (!(decide (r6.2 = (0 : Int)))) then some (Sum.inl (msg0, (r6.2, x.1, ()), s)) else (bif (!(decide (r6.1.1 = (0 : Int)))) then ((msg_With s r6.1.1 r6.1.2.1).bind fun r7 => K r7) else K s)))))) (fun s => some (Sum.inr (msg0, fault0, s))) l i out = fieldsTX (fieldsT m b l out)
  | [], i, out, _, _ => rfl
  | v :: r, i, out, h, ht => by
    simp only [List.length_cons] at h
    have hl := hm.len
    have hv := ht v List.mem_cons_self
    rw [runI, FindR_eq m v.1 (by rw [maxLen_eq]; omega), some_bind, fieldsT]
    cases hf : findR m v.1 with
    | none => rfl
    | some q =>
      dsimp only
      obtain ⟨q1, _⟩ := findR_mem hf
      have qp := (hm.rules q q1).pairs.len
      rw [Bool.not_true, cond_false, ruleApply_eq q b v.2.1 (by rw [maxLen_eq]; omega) hb (by rw [maxLen_eq]; omega), some_bind]
      generalize applyR q b v.2.1 = y
      cases decide (y.2 = 0) with
      | false => rfl
      | true =>
        rw [Bool.not_true, cond_false, cond_false]
        cases decide (y.1.1 = 0) with
        | true =>
          rw [Bool.not_true, cond_false, cond_false]
          exact fieldsT_run m b hm hb r (i + 1) out (by omega) (fun w hw => ht w (List.mem_cons_of_mem _ hw))
        | false =>
          rw [Bool.not_false, cond_true, cond_true, MWith_eq out _ _ (by omega), some_bind]
          have := withM_len out y.1.1 y.1.2.1
          exact fieldsT_run m b hm hb r (i + 1) _ (by omega) (fun w hw => ht w (List.mem_cons_of_mem _ hw))
def transC (m : Map) (a b : Schema) (x : Msg) : Msg × Fault :=
  bif !decide ((mapC m a b).1 = 0) then (msg0, (1, -1, ())) else bif !decide ((msgC a x).1 = 0) then (msg0, msgC a x) else bif !(applyP m.1 x.1).2 then (msg0, (7, 0, ()))
  else match fieldsT m b x.2.1 (constsM m.2.1 ((applyP m.1 x.1).1, [], ())) with
    | .inl (f, _) => (msg0, f)
    | .inr out => (out, fault0)
theorem Translate_eq (m : Map) (a b : Schema) (x : Msg) (hm : MapOk m) (hm2 : m.2.1.length ≤ 900000) (hx : MsgOk x) (hx2 : x.2.1.length ≤ 90000) (ha : a.2.2.1.length ≤ maxLen) (hb : b.2.2.1.length ≤ maxLen) : xlate_Translate m a b x = some (transC m a b x) := by
  have hl := hm.mtis.len
  unfold xlate_Translate xlate_Translate_s0 transC
  rw [xlateCheck_eq m a b hm ha hb, some_bind]
  cases decide ((mapC m a b).1 = 0) with
  | false => rfl
  | true =>
    rw [Bool.not_true, cond_false, cond_false, msgCheck_eq a x ha hx, some_bind]
    cases decide ((msgC a x).1 = 0) with
    | false => rfl
    | true =>
      rw [Bool.not_true, cond_false, cond_false, Head_eq m x.1 (by rw [maxLen_eq]; omega), some_bind]
      cases (applyP m.1 x.1).2 with
      | false => rfl
      | true =>
        rw [Bool.not_true, cond_false, cond_false]
        dsimp only
        have h1 := loopI rule0 m.2.1 (by rw [maxLen_eq]; omega) (fun i (x : Rule) (s : Msg) K => (bif (decide (x.1 = (3 : Int))) then ((msg_With s x.2.2.1 x.2.2.2.1).bind fun r4 => K r4) else K s)) (fun s => some (m, b, x, msg0, fault0, s))
          (fun k i s => xlate_Translate_l0 k m.2.1 (m.2.1.length : Int) i m b x msg0 fault0 s) (fun k i s => rfl) ((applyP m.1 x.1).1, [], ())
        rw [h1, consts_run _ _ _ _ (by simp; omega), some_bind]
        unfold xlate_Translate_s2
        dsimp only
        have hc := constsM_len m.2.1 ((applyP m.1 x.1).1, [], ())
        have hc : (constsM m.2.1 ((applyP m.1 x.1).1, [], ())).2.1.length ≤ m.2.1.length := by simpa using hc
        have h2 := loopI vnil x.2.1 (by rw [maxLen_eq]; omega) (fun i (x : Val) (s : Msg) K => ((xlate_find m x.1).bind fun r5 => (bif (!r5.2) then some (Sum.inl (msg0, ((9 : Int), x.1, ()), s)) else ((rule_Apply r5.1 b x.2.1).bind fun r6 => (bif (!(decide (r6.2 = (0 : Int)))) then some (Sum.inl (msg0, (r6.2, x.1, ()), s)) else (bif (!(decide (r6.1.1 = (0 : Int)))) then ((msg_With s r6.1.1 r6.1.2.1).bind fun r7 => K r7) else K s)))))) (fun s => some (Sum.inr (msg0, fault0, s)))
          (fun k i s => xlate_Translate_l1 k x.2.1 (x.2.1.length : Int) i m b msg0 fault0 s) (fun k i s => rfl) (constsM m.2.1 ((applyP m.1 x.1).1, [], ()))
        rw [h2, fieldsT_run m b hm hb _ _ _ (by omega) hx.txt]
        unfold fieldsTX
        cases fieldsT m b x.2.1 (constsM m.2.1 ((applyP m.1 x.1).1, [], ())) with
        | inl p => obtain ⟨f, o⟩ := p; rfl
        | inr o => rfl
end Groat
set_option linter.unusedVariables false
set_option linter.unusedSimpArgs false
namespace Groat
open Go Go.Ref
abbrev Ris (l : List Val) : Prop := l.Pairwise fun x y => x.1 < y.1
def insR (no : Int) (t : ByteArray) : List Val → List Val
  | [] => [(no, t, ())]
  | x :: r => if no < x.1 then (no, t, ()) :: x :: r else x :: insR no t r
theorem idxGt_shift (no : Int) : ∀ (l : List Val) (i d : Int), 0 ≤ i → 0 ≤ d → idxGt no l (i + d) = if idxGt no l i < 0 then -1 else idxGt no l i + d
  | [], i, d, _, _ => by unfold idxGt; rw [if_pos (by omega)]
  | x :: r, i, d, hi, hd => by
    unfold idxGt
    by_cases hx : no < x.1
    · rw [if_pos hx, if_pos hx, if_neg (by omega)]
    · rw [if_neg hx, if_neg hx, show i + d + 1 = (i + 1) + d by omega]
      exact idxGt_shift no r (i + 1) d (by omega) hd
theorem insV_eq (no : Int) (t : ByteArray) : ∀ l : List Val, insV l no t = insR no t l
  | [] => rfl
  | x :: r => by
    have ih := insV_eq no t r
    unfold insV at ih ⊢
    unfold insR
    by_cases hx : no < x.1
    · have : idxGt no (x :: r) 0 = 0 := by unfold idxGt; rw [if_pos hx]
      rw [this, if_pos hx]; rfl
    · rw [if_neg hx, ← ih]
      have h0 : idxGt no (x :: r) 0 = idxGt no r (0 + 1) := by
        show (if no < x.1 then (0 : Int) else idxGt no r (0 + 1)) = _
        rw [if_neg hx]
      rw [h0, idxGt_shift no r 0 1 (by omega) (by omega)]
      rcases idxGt_cases no r 0 (Int.le_refl _) with ⟨h1, _⟩ | h1
      · rw [h1, if_pos (by omega)]; rfl
      · rw [if_neg (by omega), decide_eq_false (by omega : ¬ idxGt no r 0 + 1 < 0), decide_eq_false (by omega : ¬ idxGt no r 0 < 0), cond_false, cond_false]
        have : (idxGt no r 0 + 1).toNat = (idxGt no r 0).toNat + 1 := by omega
        rw [this]; rfl
theorem insR_mem (no : Int) (t : ByteArray) (v : Val) : ∀ l : List Val, v ∈ insR no t l ↔ v = (no, t, ()) ∨ v ∈ l
  | [] => by simp [insR]
  | x :: r => by
    unfold insR
    split
    · simp
    · rw [List.mem_cons, insR_mem no t v r, List.mem_cons]
      constructor
      · rintro (h | h | h)
        · exact .inr (.inl h)
        · exact .inl h
        · exact .inr (.inr h)
      · rintro (h | h | h)
        · exact .inr (.inl h)
        · exact .inl h
        · exact .inr (.inr h)
theorem insR_ris (no : Int) (t : ByteArray) : ∀ {l : List Val}, Ris l → (∀ x ∈ l, x.1 ≠ no) → Ris (insR no t l)
  | [], _, _ => by simp [insR, Ris]
  | x :: r, h, hn => by
    have hx := hn x List.mem_cons_self
    rw [Ris, List.pairwise_cons] at h
    unfold insR
    split
    · rename_i hlt
      refine List.pairwise_cons.2 ⟨fun y hy => ?_, List.pairwise_cons.2 h⟩
      rcases List.mem_cons.1 hy with rfl | hy
      · exact hlt
      · have := h.1 y hy
        show no < y.1
        omega
    · rename_i hlt
      refine List.pairwise_cons.2 ⟨fun y hy => ?_, insR_ris no t h.2 (fun z hz => hn z (List.mem_cons_of_mem _ hz))⟩
      rcases (insR_mem no t y r).1 hy with rfl | hy
      · show x.1 < no
        omega
      · exact h.1 y hy
theorem dropV_mem {l : List Val} {no : Int} {v : Val} : v ∈ dropV l no ↔ v ∈ l ∧ v.1 ≠ no := by
  unfold dropV
  rw [List.mem_filter]
  simp
theorem withM_mem (m : Msg) (no : Int) (t : ByteArray) (v : Val) : v ∈ (withM m no t).2.1 ↔ v = (no, t, ()) ∨ (v ∈ m.2.1 ∧ v.1 ≠ no) := by
  show v ∈ insV (dropV m.2.1 no) no t ↔ _
  rw [insV_eq, insR_mem, dropV_mem]
theorem withM_ris {m : Msg} (h : Ris m.2.1) (no : Int) (t : ByteArray) : Ris (withM m no t).2.1 := by
  show Ris (insV (dropV m.2.1 no) no t)
  rw [insV_eq]
  exact insR_ris no t (h.filter _) (fun x hx => (dropV_mem.1 hx).2)
theorem ris_ext : ∀ {l r : List Val}, Ris l → Ris r → (∀ v, v ∈ l ↔ v ∈ r) → l = r
  | [], [], _, _, _ => rfl
  | [], y :: r, _, _, h => by have := (h y).2 List.mem_cons_self; cases this
  | x :: l, [], _, _, h => by have := (h x).1 List.mem_cons_self; cases this
  | x :: l, y :: r, hl, hr, h => by
    have hl' := List.pairwise_cons.1 hl
    have hr' := List.pairwise_cons.1 hr
    have e : x = y := by
      rcases List.mem_cons.1 ((h x).1 List.mem_cons_self) with e | e
      · exact e
      · rcases List.mem_cons.1 ((h y).2 List.mem_cons_self) with e2 | e2
        · exact e2.symm
        · have a1 := hr'.1 x e
          have a2 := hl'.1 y e2
          omega
    subst e
    congr 1
    refine ris_ext hl'.2 hr'.2 fun v => ⟨fun hv => ?_, fun hv => ?_⟩
    · rcases List.mem_cons.1 ((h v).1 (List.mem_cons_of_mem _ hv)) with e | e
      · subst e; have := hl'.1 _ hv; omega
      · exact e
    · rcases List.mem_cons.1 ((h v).2 (List.mem_cons_of_mem _ hv)) with e | e
      · subst e; have := hr'.1 _ hv; omega
      · exact e
def putAll : List Val → Msg → Msg
  | [], out => out
  | v :: l, out => putAll l (withM out v.1 v.2.1)
def Apart (l : List Val) : Prop := l.Pairwise fun x y => x.1 ≠ y.1
theorem putAll_head : ∀ (l : List Val) (out : Msg), (putAll l out).1 = out.1
  | [], out => rfl
  | v :: l, out => putAll_head l _
theorem putAll_ris : ∀ (l : List Val) {out : Msg}, Ris out.2.1 → Ris (putAll l out).2.1
  | [], out, h => h
  | v :: l, out, h => putAll_ris l (withM_ris h v.1 v.2.1)
theorem putAll_mem : ∀ (l : List Val) (out : Msg), Apart l → (∀ v ∈ l, ∀ w ∈ out.2.1, v.1 ≠ w.1) → ∀ v, v ∈ (putAll l out).2.1 ↔ v ∈ out.2.1 ∨ v ∈ l
  | [], out, _, _, v => by simp [putAll]
  | x :: l, out, ha, hd, v => by
    have ha' := List.pairwise_cons.1 ha
    have hx : (x.1, x.2.1, ()) = x := rfl
    rw [putAll, putAll_mem l _ ha'.2 (fun y hy w hw => ?_) v, withM_mem, hx, List.mem_cons]
    · constructor
      · rintro ((h | h) | h)
        · exact .inr (.inl h)
        · exact .inl h.1
        · exact .inr (.inr h)
      · rintro (h | h | h)
        · exact .inl (.inr ⟨h, fun e => hd x List.mem_cons_self v h e.symm⟩)
        · exact .inl (.inl h)
        · exact .inr h
    · rcases (withM_mem out x.1 x.2.1 w).1 hw with e | e
      · rw [e]; exact fun h => ha'.1 y hy h.symm
      · exact hd y (List.mem_cons_of_mem _ hy) w e.1
theorem putAll_append : ∀ (l r : List Val) (out : Msg), putAll (l ++ r) out = putAll r (putAll l out)
  | [], r, out => rfl
  | v :: l, r, out => putAll_append l r _
def constL (l : List Rule) : List Val := (l.filter fun r => decide (r.1 = 3)).map fun r => (r.2.2.1, r.2.2.2.1, ())
theorem constsM_put : ∀ (l : List Rule) (out : Msg), constsM l out = putAll (constL l) out
  | [], out => rfl
  | r :: l, out => by
    rw [constsM]
    unfold constL
    rw [List.filter_cons]
    cases decide (r.1 = 3) with
    | true => exact constsM_put l _
    | false => exact constsM_put l _
def fieldsV (m : Map) (b : Schema) : List Val → Sum Fault (List Val)
  | [] => .inr []
  | v :: r => match findR m v.1 with
    | none => .inl (9, v.1, ())
    | some q => bif !decide ((applyR q b v.2.1).2 = 0) then .inl ((applyR q b v.2.1).2, v.1, ()) else match fieldsV m b r with
      | .inl f => .inl f
      | .inr ys => .inr ((applyR q b v.2.1).1 :: ys)
def some0 (l : List Val) : List Val := l.filter fun v => !decide (v.1 = 0)
theorem fieldsT_put (m : Map) (b : Schema) : ∀ (l : List Val) (out : Msg), (∃ f o, fieldsT m b l out = .inl (f, o) ∧ fieldsV m b l = .inl f) ∨ (∃ ys, fieldsT m b l out = .inr (putAll (some0 ys) out) ∧ fieldsV m b l = .inr ys)
  | [], out => .inr ⟨[], rfl, rfl⟩
  | v :: r, out => by
    rw [fieldsT, fieldsV]
    cases findR m v.1 with
    | none => exact .inl ⟨_, _, rfl, rfl⟩
    | some q =>
      dsimp only
      generalize applyR q b v.2.1 = y
      cases decide (y.2 = 0) with
      | false => exact .inl ⟨_, _, rfl, rfl⟩
      | true =>
        rw [Bool.not_true, cond_false, cond_false]
        cases hz : decide (y.1.1 = 0) with
        | true =>
          rw [Bool.not_true, cond_false]
          rcases fieldsT_put m b r out with ⟨f, o, h1, h2⟩ | ⟨ys, h1, h2⟩
          · exact .inl ⟨f, o, h1, by rw [h2]⟩
          · refine .inr ⟨y.1 :: ys, ?_, by rw [h2]⟩
            rw [h1]
            have : some0 (y.1 :: ys) = some0 ys := by unfold some0; rw [List.filter_cons, hz]; rfl
            rw [this]
        | false =>
          rw [Bool.not_false, cond_true]
          rcases fieldsT_put m b r (withM out y.1.1 y.1.2.1) with ⟨f, o, h1, h2⟩ | ⟨ys, h1, h2⟩
          · exact .inl ⟨f, o, h1, by rw [h2]⟩
          · refine .inr ⟨y.1 :: ys, ?_, by rw [h2]⟩
            rw [h1]
            have : some0 (y.1 :: ys) = y.1 :: some0 ys := by unfold some0; rw [List.filter_cons, hz]; rfl
            rw [this]
            rfl
theorem fieldsV_mem {m : Map} {b : Schema} : ∀ {l ys : List Val}, fieldsV m b l = .inr ys → ∀ y ∈ ys, ∃ v ∈ l, ∃ q, findR m v.1 = some q ∧ (applyR q b v.2.1).2 = 0 ∧ y = (applyR q b v.2.1).1
  | [], ys, h, y, hy => by cases h; cases hy
  | v :: r, ys, h, y, hy => by
    rw [fieldsV] at h
    cases hf : findR m v.1 with
    | none => rw [hf] at h; cases h
    | some q =>
      rw [hf] at h
      dsimp only at h
      cases hz : decide ((applyR q b v.2.1).2 = 0) with
      | false => rw [hz] at h; cases h
      | true =>
        rw [hz, Bool.not_true, cond_false] at h
        cases hr : fieldsV m b r with
        | inl f => rw [hr] at h; cases h
        | inr zs =>
          rw [hr] at h
          cases h
          rcases List.mem_cons.1 hy with rfl | hy
          · exact ⟨v, List.mem_cons_self, q, hf, of_decide_eq_true hz, rfl⟩
          · obtain ⟨w, hw, q', g⟩ := fieldsV_mem hr y hy
            exact ⟨w, List.mem_cons_of_mem _ hw, q', g⟩
theorem twice_symm (x y : Rule) : twiceR x y = twiceR y x := by
  unfold twiceR
  have e1 : (!decide (x.2.1 = 0) && decide (x.2.1 = y.2.1)) = (!decide (y.2.1 = 0) && decide (y.2.1 = x.2.1)) := by
    by_cases h : x.2.1 = y.2.1
    · rw [h]
    · rw [decide_eq_false h, decide_eq_false (show ¬ y.2.1 = x.2.1 from fun e => h e.symm), Bool.and_false, Bool.and_false]
  have e2 : (!decide (x.2.2.1 = 0) && decide (x.2.2.1 = y.2.2.1)) = (!decide (y.2.2.1 = 0) && decide (y.2.2.1 = x.2.2.1)) := by
    by_cases h : x.2.2.1 = y.2.2.1
    · rw [h]
    · rw [decide_eq_false h, decide_eq_false (show ¬ y.2.2.1 = x.2.2.1 from fun e => h e.symm), Bool.and_false, Bool.and_false]
  rw [e1, e2]
theorem noTwice_pair : ∀ {l prev : List Rule}, NoTwice prev l → l.Pairwise (fun x y => twiceR x y = false) ∧ ∀ p ∈ prev, ∀ x ∈ l, twiceR p x = false
  | [], prev, h => ⟨List.Pairwise.nil, fun _ _ x hx => by cases hx⟩
  | r :: l, prev, h => by
    obtain ⟨h1, h2⟩ := h
    obtain ⟨i1, i2⟩ := noTwice_pair h2
    have hp : ∀ p ∈ prev, twiceR p r = false := fun p hp => by
      have := List.any_eq_false.1 h1 p hp
      simpa using this
    refine ⟨List.pairwise_cons.2 ⟨fun y hy => i2 r (by simp) y hy, i1⟩, fun p hp' x hx => ?_⟩
    rcases List.mem_cons.1 hx with rfl | hx
    · exact hp p hp'
    · exact i2 p (by simp [hp']) x hx
theorem tos_apart {x y : Rule} (h : twiceR x y = false) (hx : x.2.2.1 ≠ 0) : x.2.2.1 ≠ y.2.2.1 := by
  intro e
  unfold twiceR at h
  rw [Bool.or_eq_false_iff] at h
  have := h.2
  rw [decide_eq_false hx, decide_eq_true e] at this
  cases this
theorem pair_mem {l : List Rule} (h : l.Pairwise fun x y => twiceR x y = false) : ∀ x ∈ l, ∀ y ∈ l, x ≠ y → twiceR x y = false := by
  induction l with
  | nil => intro x hx; cases hx
  | cons r l ih =>
    obtain ⟨h1, h2⟩ := List.pairwise_cons.1 h
    intro x hx y hy hne
    rcases List.mem_cons.1 hx with e1 | hx1
    · rcases List.mem_cons.1 hy with e2 | hy1
      · exact absurd (e1.trans e2.symm) hne
      · rw [e1]; exact h1 y hy1
    · rcases List.mem_cons.1 hy with e2 | hy1
      · rw [twice_symm, e2]; exact h1 x hx1
      · exact ih h2 x hx1 y hy1 hne
end Groat
set_option linter.unusedVariables false
set_option linter.unusedSimpArgs false
namespace Groat
open Go Go.Ref
theorem fieldsC_none {s : Schema} : ∀ {l : List Val} {last : Int}, fieldsC s l last = none ↔ (∀ v ∈ l, hasS s v.1 = true ∧ valC (getS s v.1) v.2.1 = 0) ∧ Ris l ∧ ∀ v ∈ l, last < v.1
  | [], last => by simp [fieldsC, Ris]
  | x :: r, last => by
    rw [fieldsC]
    by_cases h1 : x.1 ≤ last
    · rw [decide_eq_true h1, cond_true]
      refine ⟨fun h => (by cases h), fun h => ?_⟩
      have := h.2.2 x List.mem_cons_self
      omega
    rw [decide_eq_false h1, cond_false]
    cases h2 : hasS s x.1 with
    | false =>
      refine ⟨fun h => (by cases h), fun h => ?_⟩
      have := (h.1 x List.mem_cons_self).1
      rw [h2] at this; cases this
    | true =>
      rw [Bool.not_true, cond_false]
      by_cases h3 : valC (getS s x.1) x.2.1 = 0
      · rw [decide_eq_true h3, Bool.not_true, cond_false, fieldsC_none]
        constructor
        · rintro ⟨g1, g2, g3⟩
          refine ⟨fun v hv => ?_, List.pairwise_cons.2 ⟨g3, g2⟩, fun v hv => ?_⟩
          · rcases List.mem_cons.1 hv with rfl | hv
            · exact ⟨h2, h3⟩
            · exact g1 v hv
          · rcases List.mem_cons.1 hv with rfl | hv
            · omega
            · have := g3 v hv; omega
        · rintro ⟨g1, g2, g3⟩
          have g2 := List.pairwise_cons.1 g2
          exact ⟨fun v hv => g1 v (List.mem_cons_of_mem _ hv), g2.2, g2.1⟩
      · rw [decide_eq_false h3, Bool.not_false, cond_true]
        refine ⟨fun h => (by cases h), fun h => ?_⟩
        exact absurd (h.1 x List.mem_cons_self).2 h3
theorem fieldsC_some {s : Schema} : ∀ {l : List Val} {last : Int} {f : Fault}, fieldsC s l last = some f → f.1 ≠ 0
  | [], last, f, h => by cases h
  | x :: r, last, f, h => by
    rw [fieldsC] at h
    cases h1 : decide (x.1 ≤ last) with
    | true => rw [h1] at h; cases h; exact (by decide : (11 : Int) ≠ 0)
    | false =>
      rw [h1, cond_false] at h
      cases h2 : hasS s x.1 with
      | false => rw [h2] at h; cases h; exact (by decide : (9 : Int) ≠ 0)
      | true =>
        rw [h2, Bool.not_true, cond_false] at h
        by_cases h3 : valC (getS s x.1) x.2.1 = 0
        · rw [decide_eq_true h3, Bool.not_true, cond_false] at h
          exact fieldsC_some h
        · rw [decide_eq_false h3, Bool.not_false, cond_true] at h
          cases h
          exact h3
structure Msg0 (s : Schema) (m : Msg) : Prop where
  sch : (schemaC s).1 = 0
  right : rightM m.1 = true
  ver : verM m.1 = s.2.1
  flds : fieldsC s m.2.1 0 = none
theorem msg0_iff {s : Schema} {m : Msg} : (msgC s m).1 = 0 ↔ Msg0 s m := by
  unfold msgC
  by_cases h1 : (schemaC s).1 = 0
  · rw [decide_eq_true h1, Bool.not_true, cond_false]
    cases h2 : rightM m.1 with
    | false => exact ⟨fun h => absurd h (show ¬ (7 : Int) = 0 by decide), fun h => by have := h.right; rw [h2] at this; cases this⟩
    | true =>
      rw [Bool.not_true, cond_false]
      by_cases h3 : verM m.1 = s.2.1
      · rw [decide_eq_true h3, Bool.not_true, cond_false]
        cases h4 : fieldsC s m.2.1 0 with
        | none => exact ⟨fun _ => ⟨h1, h2, h3, h4⟩, fun _ => rfl⟩
        | some f => exact ⟨fun h => absurd h (fieldsC_some h4), fun h => by have := h.flds; rw [h4] at this; cases this⟩
      · rw [decide_eq_false h3]
        exact ⟨fun h => absurd h (show ¬ (7 : Int) = 0 by decide), fun h => absurd h.ver h3⟩
  · rw [decide_eq_false h1]
    exact ⟨fun h => absurd h (show ¬ (1 : Int) = 0 by decide), fun h => absurd h.sch h1⟩
theorem Msg0.eq {s : Schema} {m : Msg} (h : Msg0 s m) : msgC s m = fault0 := by
  unfold msgC
  rw [decide_eq_true h.sch, h.right, decide_eq_true h.ver, h.flds]; rfl
theorem has_range2 {s : Schema} (h : Okay s) {no : Int} (hh : hasS s no = true) : 2 ≤ no ∧ no ≤ 128 := by
  have := (specC_facts (okay_spec h hh)).1
  rw [(getS_mem hh).2] at this
  exact this
theorem applyR_to {q : Rule} {b : Schema} {t : ByteArray} (h : (applyR q b t).2 = 0) (hz : (applyR q b t).1.1 ≠ 0) : q.1 ≠ 2 ∧ (applyR q b t).1.1 = q.2.2.1 := by
  unfold applyR at h hz ⊢
  by_cases k1 : q.1 = 1
  · rw [decide_eq_true k1, cond_true]; exact ⟨by omega, rfl⟩
  rw [decide_eq_false k1, cond_false] at h hz ⊢
  by_cases k2 : q.1 = 2
  · rw [decide_eq_true k2, cond_true] at hz; exact absurd rfl hz
  rw [decide_eq_false k2, cond_false] at h hz ⊢
  refine ⟨k2, ?_⟩
  by_cases k3 : q.1 = 3
  · rw [decide_eq_true k3, cond_true]
  rw [decide_eq_false k3, cond_false] at h hz ⊢
  by_cases k4 : q.1 = 4
  · rw [decide_eq_true k4, cond_true] at h hz ⊢
    cases hs : hasS b q.2.2.1 with
    | false => rw [hs] at h; cases h
    | true =>
      rw [hs] at h
      rw [Bool.not_true, cond_false] at h ⊢
      cases hp : (padD t (getS b q.2.2.1).2.2.2.1).2 with
      | false => rw [hp] at h; cases h
      | true => rfl
  rw [decide_eq_false k4, cond_false] at h hz ⊢
  by_cases k5 : q.1 = 5
  · rw [decide_eq_true k5, cond_true] at h hz ⊢
    cases hp : (applyP q.2.2.2.2.1 t).2 with
    | false => rw [hp] at h; cases h
    | true => rfl
  · rw [decide_eq_false k5, cond_false] at hz; exact absurd rfl hz
theorem some0_mem {l : List Val} {v : Val} : v ∈ some0 l ↔ v ∈ l ∧ v.1 ≠ 0 := by
  unfold some0
  rw [List.mem_filter]
  simp
section
variable {m : Map} {a b : Schema}
theorem Map0.pairs (h : Map0 m a b) : m.2.1.Pairwise fun x y => twiceR x y = false := (noTwice_pair h.twice).1
theorem Map0.okA (h : Map0 m a b) : Okay a := (schemaC_ok a).1 h.sa
theorem Map0.okB (h : Map0 m a b) : Okay b := (schemaC_ok b).1 h.sb
theorem Map0.to (h : Map0 m a b) {r : Rule} (hr : r ∈ m.2.1) (k : r.1 ≠ 2) : hasS b r.2.2.1 = true := (ends_zero (ruleC_zero (h.rules r hr)).2.1).2.2.2 k
theorem Map0.to0 (h : Map0 m a b) {r : Rule} (hr : r ∈ m.2.1) (k : r.1 ≠ 2) : r.2.2.1 ≠ 0 := by
  have := has_range2 h.okB (h.to hr k)
  omega
theorem ys_apart (h : Map0 m a b) : ∀ {l ys : List Val}, Ris l → fieldsV m b l = .inr ys → Apart (some0 ys)
  | [], ys, _, hy => by cases hy; exact List.Pairwise.nil
  | v :: r, ys, hr, hy => by
    rw [fieldsV] at hy
    have hr := List.pairwise_cons.1 hr
    cases hf : findR m v.1 with
    | none => rw [hf] at hy; cases hy
    | some q =>
      rw [hf] at hy
      dsimp only at hy
      cases hz : decide ((applyR q b v.2.1).2 = 0) with
      | false => rw [hz] at hy; cases hy
      | true =>
        rw [hz, Bool.not_true, cond_false] at hy
        cases hv : fieldsV m b r with
        | inl f => rw [hv] at hy; cases hy
        | inr zs =>
          rw [hv] at hy
          cases hy
          have ih := ys_apart h hr.2 hv
          unfold some0 at ih ⊢
          rw [List.filter_cons]
          split
          · rename_i hnz
            have hnz : (applyR q b v.2.1).1.1 ≠ 0 := by simpa using hnz
            refine List.pairwise_cons.2 ⟨fun z hzm => ?_, ih⟩
            obtain ⟨z1, z2⟩ := some0_mem.1 hzm
            obtain ⟨w, hw, q', hf', h0', rfl⟩ := fieldsV_mem hv z z1
            obtain ⟨a1, a2⟩ := applyR_to (of_decide_eq_true hz) hnz
            obtain ⟨b1, b2⟩ := applyR_to h0' z2
            rw [a2, b2]
            obtain ⟨qm, qf⟩ := findR_mem hf
            obtain ⟨qm', qf'⟩ := findR_mem hf'
            have hlt := hr.1 w hw
            have hne : q ≠ q' := fun e => by subst e; omega
            exact tos_apart (pair_mem h.pairs q qm q' qm' hne) (h.to0 qm a1)
          · exact ih
theorem consts_mem {l : List Rule} {v : Val} : v ∈ constL l ↔ ∃ r ∈ l, r.1 = 3 ∧ v = (r.2.2.1, r.2.2.2.1, ()) := by
  unfold constL
  rw [List.mem_map]
  constructor
  · rintro ⟨r, hr, rfl⟩
    rw [List.mem_filter] at hr
    exact ⟨r, hr.1, of_decide_eq_true hr.2, rfl⟩
  · rintro ⟨r, hr, k, rfl⟩
    exact ⟨r, List.mem_filter.2 ⟨hr, decide_eq_true k⟩, rfl⟩
theorem consts_apart (h : Map0 m a b) : Apart (constL m.2.1) := by
  unfold constL
  refine List.pairwise_map.2 ?_
  refine List.Pairwise.imp_of_mem ?_ (h.pairs.filter _)
  intro x y hx hy hxy
  have hx := List.mem_filter.1 hx
  have k : x.1 = 3 := of_decide_eq_true hx.2
  exact tos_apart hxy (h.to0 hx.1 (by omega))
theorem cross_apart (h : Map0 m a b) {l ys : List Val} (hl : ∀ v ∈ l, hasS a v.1 = true) (hy : fieldsV m b l = .inr ys) : ∀ c ∈ constL m.2.1, ∀ y ∈ some0 ys, c.1 ≠ y.1 := by
  intro c hc y hym
  obtain ⟨r, hr, k, rfl⟩ := consts_mem.1 hc
  obtain ⟨y1, y2⟩ := some0_mem.1 hym
  obtain ⟨w, hw, q, hf, h0, rfl⟩ := fieldsV_mem hy y y1
  obtain ⟨b1, b2⟩ := applyR_to h0 y2
  rw [b2]
  obtain ⟨qm, qf⟩ := findR_mem hf
  have hwr := has_range2 h.okA (hl w hw)
  have hz := (ends_zero (ruleC_zero (h.rules r hr)).2.1).1 k
  have hne : r ≠ q := fun e => by subst e; omega
  exact tos_apart (pair_mem h.pairs r hr q qm hne) (h.to0 hr (by omega))
theorem all_apart (h : Map0 m a b) {l ys : List Val} (hr : Ris l) (hl : ∀ v ∈ l, hasS a v.1 = true) (hy : fieldsV m b l = .inr ys) : Apart (constL m.2.1 ++ some0 ys) :=
  List.pairwise_append.2 ⟨consts_apart h, ys_apart h hr hy, cross_apart h hl hy⟩
theorem all_range (h : Map0 m a b) {l ys : List Val} (hy : fieldsV m b l = .inr ys) : ∀ v ∈ constL m.2.1 ++ some0 ys, hasS b v.1 = true := by
  intro v hv
  rcases List.mem_append.1 hv with hv | hv
  · obtain ⟨r, hr, k, rfl⟩ := consts_mem.1 hv
    exact h.to hr (by omega)
  · obtain ⟨y1, y2⟩ := some0_mem.1 hv
    obtain ⟨w, hw, q, hf, h0, rfl⟩ := fieldsV_mem hy v y1
    obtain ⟨b1, b2⟩ := applyR_to h0 y2
    rw [b2]
    exact h.to (findR_mem hf).1 b1
end
def bucket (vs : List Val) : Nat → Nat → List Val
  | 0, _ => []
  | n + 1, k => (vs.filter fun v => decide (v.1 = (k : Int))) ++ bucket vs n (k + 1)
theorem bucket_mem {vs : List Val} {v : Val} : ∀ {n k : Nat}, v ∈ bucket vs n k ↔ v ∈ vs ∧ (k : Int) ≤ v.1 ∧ v.1 < ((k + n : Nat) : Int)
  | 0, k => by simp only [bucket, List.not_mem_nil, false_iff]; omega
  | n + 1, k => by
    rw [bucket, List.mem_append, List.mem_filter, decide_eq_true_eq, bucket_mem]
    constructor
    · rintro (⟨h1, h2⟩ | ⟨h1, h2, h3⟩)
      · exact ⟨h1, by omega, by omega⟩
      · exact ⟨h1, by omega, by omega⟩
    · rintro ⟨h1, h2, h3⟩
      by_cases e : v.1 = (k : Int)
      · exact .inl ⟨h1, e⟩
      · exact .inr ⟨h1, by omega, by omega⟩
theorem bucket_ris {vs : List Val} (h : Apart (some0 vs)) : ∀ (n k : Nat), 1 ≤ k → Ris (bucket vs n k)
  | 0, k, _ => List.Pairwise.nil
  | n + 1, k, hk => by
    rw [bucket]
    refine List.pairwise_append.2 ⟨?_, bucket_ris h n (k + 1) (by omega), fun x hx y hy => ?_⟩
    · have e : (vs.filter fun v => decide (v.1 = (k : Int))) = (some0 vs).filter fun v => decide (v.1 = (k : Int)) := by
        unfold some0
        rw [List.filter_filter]
        congr 1
        funext v
        by_cases hv : v.1 = (k : Int)
        · rw [decide_eq_true hv, decide_eq_false (by omega : ¬ v.1 = 0)]; rfl
        · rw [decide_eq_false hv]; rfl
      rw [e]
      refine List.Pairwise.imp_of_mem ?_ (h.filter _)
      intro x y hx hy hne
      have h1 := of_decide_eq_true (List.mem_filter.1 hx).2
      have h2 := of_decide_eq_true (List.mem_filter.1 hy).2
      omega
    · have h1 := of_decide_eq_true (List.mem_filter.1 hx).2
      have h2 := (bucket_mem.1 hy).2.1
      omega
def transD (m : Map) (a b : Schema) (x : Msg) : Msg × Fault :=
  bif !decide ((mapC m a b).1 = 0) then (msg0, (1, -1, ())) else bif !decide ((msgC a x).1 = 0) then (msg0, msgC a x) else bif !(applyP m.1 x.1).2 then (msg0, (7, 0, ()))
  else match fieldsV m b x.2.1 with
    | .inl f => (msg0, f)
    | .inr ys => (((applyP m.1 x.1).1, bucket (ys ++ constL m.2.1) 127 2, ()), fault0)
theorem some0_append (l r : List Val) : some0 (l ++ r) = some0 l ++ some0 r := by unfold some0; rw [List.filter_append]
theorem some0_consts {m : Map} {a b : Schema} (h : Map0 m a b) : some0 (constL m.2.1) = constL m.2.1 := by
  unfold some0
  refine List.filter_eq_self.2 fun v hv => ?_
  obtain ⟨r, hr, k, rfl⟩ := consts_mem.1 hv
  have := h.to0 hr (by omega)
  simpa using this
theorem apart_swap {l r : List Val} (h : Apart (l ++ r)) : Apart (r ++ l) := by
  obtain ⟨h1, h2, h3⟩ := List.pairwise_append.1 h
  exact List.pairwise_append.2 ⟨h2, h1, fun x hx y hy e => h3 y hy x hx e.symm⟩
theorem both_same {m : Map} {a b : Schema} (h : Map0 m a b) {l ys : List Val} (hr : Ris l) (hl : ∀ v ∈ l, hasS a v.1 = true) (hy : fieldsV m b l = .inr ys) (t : ByteArray) :
    putAll (some0 ys) (constsM m.2.1 (t, [], ())) = (t, bucket (ys ++ constL m.2.1) 127 2, ()) := by
  rw [constsM_put, ← putAll_append]
  have hap := all_apart h hr hl hy
  have hs : some0 (ys ++ constL m.2.1) = some0 ys ++ constL m.2.1 := by rw [some0_append, some0_consts h]
  refine msg_ext.2 ⟨putAll_head _ _, ?_⟩
  refine ris_ext (putAll_ris _ List.Pairwise.nil) (bucket_ris (by rw [hs]; exact apart_swap hap) 127 2 (by omega)) fun v => ?_
  rw [putAll_mem _ _ hap (fun _ _ w hw => by cases hw) v, bucket_mem]
  constructor
  · rintro (hv | hv)
    · cases hv
    · have hb := has_range2 h.okB (all_range h hy v hv)
      refine ⟨?_, by omega, by omega⟩
      rcases List.mem_append.1 hv with hv | hv
      · exact List.mem_append_right _ hv
      · exact List.mem_append_left _ (some0_mem.1 hv).1
  · rintro ⟨hv, h1, h2⟩
    right
    rcases List.mem_append.1 hv with hv | hv
    · exact List.mem_append_right _ (some0_mem.2 ⟨hv, by omega⟩)
    · exact List.mem_append_left _ hv
theorem trans_same (m : Map) (a b : Schema) (x : Msg) : transC m a b x = transD m a b x := by
  unfold transC transD
  by_cases h1 : (mapC m a b).1 = 0
  · rw [decide_eq_true h1, Bool.not_true, cond_false, cond_false]
    by_cases h2 : (msgC a x).1 = 0
    · rw [decide_eq_true h2, Bool.not_true, cond_false, cond_false]
      cases (applyP m.1 x.1).2 with
      | false => rfl
      | true =>
        rw [Bool.not_true, cond_false, cond_false]
        obtain ⟨g1, g2, g3⟩ := fieldsC_none.1 (msg0_iff.1 h2).flds
        rcases fieldsT_put m b x.2.1 (constsM m.2.1 ((applyP m.1 x.1).1, [], ())) with ⟨f, o, e1, e2⟩ | ⟨ys, e1, e2⟩
        · rw [e1, e2]
        · rw [e1, e2]
          dsimp only
          rw [both_same (map0_iff.1 h1) g2 (fun v hv => (g1 v hv).1) e2]
    · rw [decide_eq_false h2]; rfl
  · rw [decide_eq_false h1]; rfl
end Groat
set_option linter.unusedVariables false
set_option linter.unusedSimpArgs false
namespace Groat
open Go Go.Ref
abbrev tSpec : Ty := .pair (.int .i64) (.pair (.int .i64) (.pair (.int .i64) (.pair (.int .i64) (.pair (.int .i64) .unit))))
abbrev tSchema : Ty := .pair (.int .i64) (.pair (.int .i64) (.pair (.sl 0 tSpec) .unit))
end Groat
set_option linter.unusedVariables false
set_option linter.unusedSimpArgs false
namespace Groat
open Go Go.Ref
abbrev tPair : Ty := .pair .str (.pair .str .unit)
abbrev tRule : Ty := .pair (.int .i64) (.pair (.int .i64) (.pair (.int .i64) (.pair .str (.pair (.sl 0 tPair) .unit))))
abbrev tMap : Ty := .pair (.sl 0 tPair) (.pair (.sl 0 tRule) .unit)
def small (n : Nat) (l : List Pair) : Bool := l.all fun p => !decide ((n : Int) < (p.1.size : Int)) && !decide ((n : Int) < (p.2.1.size : Int))
theorem small_sz {n : Nat} {l : List Pair} (hn : n ≤ 1200) (h : small n l = true) : ∀ p ∈ l, p.1.size ≤ 1099511627776 ∧ p.2.1.size ≤ 1099511627776 := fun p hp => by
  have := List.all_eq_true.1 h p hp
  simp only [Bool.and_eq_true, Bool.not_eq_true', decide_eq_false_iff_not] at this
  omega
def grR (t : Bool) : Option (Sum Bool Unit) := some (bif t then .inr () else .inl true)
theorem gr_run : ∀ (l : List Pair) (i : Int), runI (fun i (p : Pair) (s : Unit) K => bif (decide (1200 < ((p.1).size : Int))) then some (Sum.inl true) else (bif (decide (1200 < ((p.2.1).size : Int))) then some (Sum.inl true) else K s)) (fun _ => some (Sum.inr ())) l i () = grR (small 1200 l)
  | [], i => rfl
  | p :: r, i => by
    simp only [runI, small, List.all_cons]
    by_cases h1 : (1200 : Int) < (p.1.size : Int)
    · rw [decide_eq_true h1, decide_eq_true (show ((1200 : Nat) : Int) < (p.1.size : Int) from h1)]; rfl
    · rw [decide_eq_false h1, decide_eq_false (show ¬ ((1200 : Nat) : Int) < (p.1.size : Int) from h1)]
      by_cases h2 : (1200 : Int) < (p.2.1.size : Int)
      · rw [decide_eq_true h2, decide_eq_true (show ((1200 : Nat) : Int) < (p.2.1.size : Int) from h2)]; rfl
      · rw [decide_eq_false h2, decide_eq_false (show ¬ ((1200 : Nat) : Int) < (p.2.1.size : Int) from h2)]
        exact gr_run r (i + 1)
def greatR (r : Rule) : Bool := decide ((1200 : Int) < (r.2.2.2.1.size : Int)) || (decide ((300 : Int) < (r.2.2.2.2.1.length : Int)) || !small 1200 r.2.2.2.2.1)
theorem Great20_eq (r : Rule) (h : r.2.2.2.2.1.length ≤ maxLen) : r20_Great r = some (greatR r) := by
  unfold r20_Great r20_Great_s0 greatR
  cases decide ((1200 : Int) < (r.2.2.2.1.size : Int)) with
  | true => rfl
  | false =>
    cases decide ((300 : Int) < (r.2.2.2.2.1.length : Int)) with
    | true => rfl
    | false =>
      simp only [cond_false, Bool.false_or]
      have := loopJ pair0 r.2.2.2.2.1 h (fun i (p : Pair) (s : Unit) K => bif (decide (1200 < ((p.1).size : Int))) then some (Sum.inl true) else (bif (decide (1200 < ((p.2.1).size : Int))) then some (Sum.inl true) else K s)) (fun _ => some (Sum.inr ()))
        (fun k i s => r20_Great_l0 k i r) (fun k i s h0 h1 => by
          show r20_Great_l0 (k + 1) i r = _
          conv => lhs; unfold r20_Great_l0 r20_Great_s1
          rw [decide_eq_true h1, cond_true, within_int h0 h1, within_int h0 h1]
          rfl) (fun k s => by
          show r20_Great_l0 (k + 1) r.2.2.2.2.1.length r = _
          conv => lhs; unfold r20_Great_l0 r20_Great_s1
          rw [decide_eq_false (by omega), cond_false]) ()
      rw [this, gr_run]
      unfold grR
      cases small 1200 r.2.2.2.2.1 <;> rfl
theorem greatR_ok {r : Rule} (h : greatR r = false) : RuleOk r := by
  unfold greatR at h
  simp only [Bool.or_eq_false_iff, decide_eq_false_iff_not, Bool.not_eq_false'] at h
  obtain ⟨h1, h2, h3⟩ := h
  exact ⟨by omega, by omega, small_sz (by omega) h3⟩
theorem gm_run (m : Map) : ∀ (l : List Pair) (i : Int), runI (fun i (p : Pair) (s : Unit) K => bif (decide (100 < ((p.1).size : Int))) then some (Sum.inl (true, m)) else (bif (decide (100 < ((p.2.1).size : Int))) then some (Sum.inl (true, m)) else K s)) (fun _ => some (Sum.inr m)) l i () = some (bif small 100 l then .inr m else .inl (true, m))
  | [], i => rfl
  | p :: r, i => by
    simp only [runI, small, List.all_cons]
    by_cases h1 : (100 : Int) < (p.1.size : Int)
    · rw [decide_eq_true h1, decide_eq_true (show ((100 : Nat) : Int) < (p.1.size : Int) from h1)]; rfl
    · rw [decide_eq_false h1, decide_eq_false (show ¬ ((100 : Nat) : Int) < (p.1.size : Int) from h1)]
      by_cases h2 : (100 : Int) < (p.2.1.size : Int)
      · rw [decide_eq_true h2, decide_eq_true (show ((100 : Nat) : Int) < (p.2.1.size : Int) from h2)]; rfl
      · rw [decide_eq_false h2, decide_eq_false (show ¬ ((100 : Nat) : Int) < (p.2.1.size : Int) from h2)]
        exact gm_run m r (i + 1)
theorem gl_run : ∀ (l : List Rule) (i : Int), (∀ r ∈ l, r.2.2.2.2.1.length ≤ maxLen) → runI (fun i (x : Rule) (s : Unit) K => ((r20_Great x).bind fun r1 => (bif r1 then some (Sum.inl true) else K s))) (fun _ => some (Sum.inr ())) l i () = some (bif l.any greatR then Sum.inl true else Sum.inr ())
  | [], i, _ => rfl
  | r :: l, i, h => by
    simp only [runI, List.any_cons]
    rw [Great20_eq r (h r List.mem_cons_self), Option.bind_some]
    cases greatR r with
    | true => rfl
    | false => exact gl_run l (i + 1) fun q hq => h q (List.mem_cons_of_mem _ hq)
def greatM (m : Map) : Bool := decide ((300 : Int) < (m.1.length : Int)) || (decide ((300 : Int) < (m.2.1.length : Int)) || (!small 100 m.1 || m.2.1.any greatR))
theorem Great21_eq (m : Map) (h1 : m.1.length ≤ maxLen) (h2 : m.2.1.length ≤ maxLen) (h3 : ∀ r ∈ m.2.1, r.2.2.2.2.1.length ≤ maxLen) : r21_Great m = some (greatM m) := by
  unfold r21_Great r21_Great_s0 greatM
  cases decide ((300 : Int) < (m.1.length : Int)) with
  | true => rfl
  | false =>
    cases decide ((300 : Int) < (m.2.1.length : Int)) with
    | true => rfl
    | false =>
      simp only [cond_false, Bool.false_or]
      have e1 := loopJ pair0 m.1 h1 (fun i (p : Pair) (s : Unit) K => bif (decide (100 < ((p.1).size : Int))) then some (Sum.inl (true, m)) else (bif (decide (100 < ((p.2.1).size : Int))) then some (Sum.inl (true, m)) else K s)) (fun _ => some (Sum.inr m))
        (fun k i s => r21_Great_l0 k i m) (fun k i s h0 h1 => by
          show r21_Great_l0 (k + 1) i m = _
          conv => lhs; unfold r21_Great_l0 r21_Great_s1
          rw [decide_eq_true h1, cond_true, within_int h0 h1, within_int h0 h1]
          rfl) (fun k s => by
          show r21_Great_l0 (k + 1) m.1.length m = _
          conv => lhs; unfold r21_Great_l0 r21_Great_s1
          rw [decide_eq_false (by omega), cond_false]) ()
      rw [e1, gm_run]
      cases small 100 m.1 with
      | false => rfl
      | true =>
        simp only [cond_true, Option.bind_some, Sum.elim_inr, Bool.not_true, Bool.false_or]
        unfold r21_Great_s3
        have e2 := loopI rule0 m.2.1 h2 (fun i (x : Rule) (s : Unit) K => ((r20_Great x).bind fun r1 => (bif r1 then some (Sum.inl true) else K s))) (fun _ => some (Sum.inr ()))
          (fun k i s => r21_Great_l1 k i m) (fun k i s => rfl) ()
        dsimp only
        rw [e2, gl_run _ _ h3]
        cases m.2.1.any greatR <;> rfl
theorem greatM_ok {m : Map} (h : greatM m = false) : MapOk m := by
  unfold greatM at h
  simp only [Bool.or_eq_false_iff, decide_eq_false_iff_not, Bool.not_eq_false'] at h
  obtain ⟨h1, h2, h3, h4⟩ := h
  refine ⟨⟨by omega, small_sz (by omega) h3⟩, by omega, fun r hr => greatR_ok ?_⟩
  cases hg : greatR r with
  | false => rfl
  | true => rw [List.any_eq_true.2 ⟨r, hr, hg⟩] at h4; cases h4
theorem wf_great {m : Map} (h : Wf tMap m) : r21_Great m = some (greatM m) :=
  Great21_eq m h.1.1 h.2.1.1 fun r hr => (h.2.1.2 r hr).2.2.2.2.1.1
theorem two_of {s : List Schema} (h : s.length = 2) : ∃ a b, s = [a, b] := by
  match s, h with
  | [a, b], _ => exact ⟨a, b, rfl⟩
end Groat
set_option linter.unusedVariables false
set_option linter.unusedSimpArgs false
namespace Groat
open Go Go.Ref
theorem applyR_size {r : Rule} {b : Schema} {t : ByteArray} (ht : t.size ≤ 1099511627776) (hr : RuleOk r) : (applyR r b t).1.2.1.size ≤ 1099511627776 := by
  have h0 : (bs []).size ≤ 1099511627776 := by decide
  unfold applyR
  cases decide (r.1 = 1) with
  | true => exact ht
  | false =>
    rw [cond_false]
    cases decide (r.1 = 2) with
    | true => exact h0
    | false =>
      rw [cond_false]
      cases decide (r.1 = 3) with
      | true => exact hr.text
      | false =>
        rw [cond_false]
        cases decide (r.1 = 4) with
        | true =>
          rw [cond_true]
          cases hasS b r.2.2.1 with
          | false => exact h0
          | true =>
            rw [Bool.not_true, cond_false]
            cases hp : (padD t (getS b r.2.2.1).2.2.2.1).2 with
            | false => exact h0
            | true =>
              obtain ⟨p1, p2, p3, p4⟩ := padD_ok hp
              show (padD t (getS b r.2.2.1).2.2.2.1).1.size ≤ _
              omega
        | false =>
          rw [cond_false]
          cases decide (r.1 = 5) with
          | true =>
            rw [cond_true]
            cases hp : (applyP r.2.2.2.2.1 t).2 with
            | false => exact h0
            | true =>
              obtain ⟨p, hm, _, hq⟩ := applyP_mem hp
              show (applyP r.2.2.2.2.1 t).1.size ≤ _
              rw [hq]
              exact (hr.pairs.sz p hm).2
          | false => exact h0
theorem fieldsV_some {m : Map} {b : Schema} : ∀ {l : List Val} {f : Fault}, fieldsV m b l = .inl f → f.1 ≠ 0
  | [], f, h => by cases h
  | v :: r, f, h => by
    rw [fieldsV] at h
    cases hf : findR m v.1 with
    | none => rw [hf] at h; cases h; exact (by decide : (9 : Int) ≠ 0)
    | some q =>
      rw [hf] at h
      dsimp only at h
      by_cases hz : (applyR q b v.2.1).2 = 0
      · rw [decide_eq_true hz, Bool.not_true, cond_false] at h
        cases hr : fieldsV m b r with
        | inl g => rw [hr] at h; cases h; exact fieldsV_some hr
        | inr ys => rw [hr] at h; cases h
      · rw [decide_eq_false hz, Bool.not_false, cond_true] at h
        cases h; exact hz
structure Done21 (m : Map) (a b : Schema) (x : Msg) (ys : List Val) : Prop where
  map : Map0 m a b
  msg : Msg0 a x
  head : (applyP m.1 x.1).2 = true
  vals : fieldsV m b x.2.1 = .inr ys
theorem trans_cases (m : Map) (a b : Schema) (x : Msg) : (∃ f, f.1 ≠ 0 ∧ transC m a b x = (msg0, f)) ∨ ∃ ys, Done21 m a b x ys ∧ transC m a b x = (((applyP m.1 x.1).1, bucket (ys ++ constL m.2.1) 127 2, ()), fault0) := by
  rw [trans_same]
  unfold transD
  by_cases h1 : (mapC m a b).1 = 0
  · rw [decide_eq_true h1, Bool.not_true, cond_false]
    by_cases h2 : (msgC a x).1 = 0
    · rw [decide_eq_true h2, Bool.not_true, cond_false]
      cases h3 : (applyP m.1 x.1).2 with
      | false => exact .inl ⟨_, by decide, rfl⟩
      | true =>
        rw [Bool.not_true, cond_false]
        cases h4 : fieldsV m b x.2.1 with
        | inl f => exact .inl ⟨f, fieldsV_some h4, rfl⟩
        | inr ys => exact .inr ⟨ys, ⟨map0_iff.1 h1, msg0_iff.1 h2, h3, h4⟩, rfl⟩
    · rw [decide_eq_false h2]; exact .inl ⟨_, h2, rfl⟩
  · rw [decide_eq_false h1]; exact .inl ⟨_, by decide, rfl⟩
theorem Done21.eq {m : Map} {a b : Schema} {x : Msg} {ys : List Val} (h : Done21 m a b x ys) : transC m a b x = (((applyP m.1 x.1).1, bucket (ys ++ constL m.2.1) 127 2, ()), fault0) := by
  rw [trans_same]
  unfold transD
  rw [decide_eq_true (map0_iff.2 h.map), Bool.not_true, cond_false, decide_eq_true (msg0_iff.2 h.msg), Bool.not_true, cond_false, h.head, h.vals]
  rfl
section
variable {m : Map} {a b : Schema} {x : Msg} {ys : List Val}
theorem Done21.flds (h : Done21 m a b x ys) : (∀ v ∈ x.2.1, hasS a v.1 = true ∧ valC (getS a v.1) v.2.1 = 0) ∧ Ris x.2.1 ∧ ∀ v ∈ x.2.1, 0 < v.1 := fieldsC_none.1 h.msg.flds
theorem Done21.ris (h : Done21 m a b x ys) : Ris (bucket (ys ++ constL m.2.1) 127 2) := by
  obtain ⟨g1, g2, g3⟩ := h.flds
  refine bucket_ris ?_ 127 2 (by omega)
  rw [some0_append, some0_consts h.map]
  exact apart_swap (all_apart h.map g2 (fun v hv => (g1 v hv).1) h.vals)
theorem Done21.mem (h : Done21 m a b x ys) (v : Val) : v ∈ bucket (ys ++ constL m.2.1) 127 2 ↔ v ∈ constL m.2.1 ∨ (v ∈ ys ∧ v.1 ≠ 0) := by
  rw [bucket_mem, List.mem_append]
  have hr := all_range h.map h.vals
  constructor
  · rintro ⟨h1 | h1, h2, h3⟩
    · exact .inr ⟨h1, by omega⟩
    · exact .inl h1
  · rintro (h1 | ⟨h1, h2⟩)
    · have := has_range2 h.map.okB (hr v (List.mem_append_left _ h1))
      exact ⟨.inr h1, by omega, by omega⟩
    · have := has_range2 h.map.okB (hr v (List.mem_append_right _ (some0_mem.2 ⟨h1, h2⟩)))
      exact ⟨.inl h1, by omega, by omega⟩
theorem Done21.valid (h : Done21 m a b x ys) (hm : MapOk m) (hx : MsgOk x) : ∀ v ∈ bucket (ys ++ constL m.2.1) 127 2, hasS b v.1 = true ∧ v.2.1.size ≤ 1099511627776 ∧ valC (getS b v.1) v.2.1 = 0 := by
  intro v hv
  obtain ⟨g1, g2, g3⟩ := h.flds
  rcases (h.mem v).1 hv with hv | ⟨hv, hz⟩
  · obtain ⟨r, hr, k, rfl⟩ := consts_mem.1 hv
    have hc := (ruleC_zero (h.map.rules r hr)).2.2.2
    unfold kindC at hc
    rw [decide_eq_false (by omega : ¬ r.1 = 1), decide_eq_true k, cond_false, cond_true] at hc
    exact ⟨h.map.to hr (by omega), (hm.rules r hr).text, hc⟩
  · obtain ⟨w, hw, q, hf, h0, rfl⟩ := fieldsV_mem h.vals v hv
    obtain ⟨b1, b2⟩ := applyR_to h0 hz
    obtain ⟨qm, qf⟩ := findR_mem hf
    have hwt := hx.txt w hw
    have := (apply_valid (r := q) (a := a) (b := b) hwt (hm.rules q qm) (h.map.rules q qm) h.map.okB (fun _ => by rw [qf]; exact (g1 w hw).2)).2 h0
    obtain ⟨e1, e2, e3⟩ := this.2 b1
    rw [b2]
    exact ⟨e2, applyR_size hwt (hm.rules q qm), e3⟩
theorem versM_iff {t : ByteArray} {v : Int} (h : versM t v = true) : rightM t = true ∧ verM t = v := by
  unfold versM at h
  rw [Bool.and_eq_true, decide_eq_true_eq] at h
  refine ⟨h.1, ?_⟩
  unfold verM
  rw [h.1]; exact h.2
theorem Done21.mti (h : Done21 m a b x ys) : rightM (applyP m.1 x.1).1 = true ∧ verM (applyP m.1 x.1).1 = b.2.1 := by
  obtain ⟨p, hp, _, e⟩ := applyP_mem h.head
  have ht := h.map.typed p hp
  unfold typedP at ht
  rw [Bool.and_eq_true, Bool.and_eq_true] at ht
  rw [e]
  exact versM_iff ht.2.1
theorem Done21.out (h : Done21 m a b x ys) (hm : MapOk m) (hx : MsgOk x) : Msg0 b ((applyP m.1 x.1).1, bucket (ys ++ constL m.2.1) 127 2, ()) := by
  have hv := h.valid hm hx
  refine ⟨h.map.sb, h.mti.1, h.mti.2, fieldsC_none.2 ⟨fun v hm => ⟨(hv v hm).1, (hv v hm).2.2⟩, h.ris, fun v hm => ?_⟩⟩
  have := has_range2 h.map.okB (hv v hm).1
  omega
end
theorem ris_len : ∀ {l : List Val} {lo : Int}, Ris l → (∀ v ∈ l, lo < v.1 ∧ v.1 ≤ 128) → (l.length : Int) ≤ max 0 (128 - lo)
  | [], lo, _, _ => by simp; omega
  | x :: r, lo, h, hr => by
    have h := List.pairwise_cons.1 h
    have hx := hr x List.mem_cons_self
    have := ris_len (l := r) (lo := x.1) h.2 (fun v hv => ⟨h.1 v hv, (hr v (List.mem_cons_of_mem _ hv)).2⟩)
    simp only [List.length_cons]
    omega
theorem Done21.ok {m : Map} {a b : Schema} {x : Msg} {ys : List Val} (h : Done21 m a b x ys) (hm : MapOk m) (hx : MsgOk x) : MsgOk ((applyP m.1 x.1).1, bucket (ys ++ constL m.2.1) 127 2, ()) := by
  have hv := h.valid hm hx
  refine ⟨?_, ?_, fun v hv' => (hv v hv').2.1⟩
  · have := (rightM_iff.1 h.mti.1).1
    show (applyP m.1 x.1).1.size ≤ _
    omega
  · have := ris_len (lo := 0) h.ris (fun v hv' => by have := has_range2 h.map.okB (hv v hv').1; omega)
    show (bucket (ys ++ constL m.2.1) 127 2).length ≤ _
    omega
def goodV (m : Map) (b : Schema) (v : Val) : Prop := ∃ q, findR m v.1 = some q ∧ (applyR q b v.2.1).2 = 0
theorem fieldsV_ok {m : Map} {b : Schema} : ∀ {l : List Val}, (∃ ys, fieldsV m b l = .inr ys) ↔ ∀ v ∈ l, goodV m b v
  | [] => ⟨fun _ v hv => (by cases hv), fun _ => ⟨[], rfl⟩⟩
  | v :: r => by
    rw [fieldsV]
    constructor
    · rintro ⟨ys, h⟩ w hw
      cases hf : findR m v.1 with
      | none => rw [hf] at h; cases h
      | some q =>
        rw [hf] at h
        dsimp only at h
        cases hz : decide ((applyR q b v.2.1).2 = 0) with
        | false => rw [hz] at h; cases h
        | true =>
          rw [hz, Bool.not_true, cond_false] at h
          rcases List.mem_cons.1 hw with rfl | hw
          · exact ⟨q, hf, of_decide_eq_true hz⟩
          · cases hr : fieldsV m b r with
            | inl g => rw [hr] at h; cases h
            | inr zs => exact fieldsV_ok.1 ⟨zs, hr⟩ w hw
    · intro h
      obtain ⟨q, hf, hz⟩ := h v List.mem_cons_self
      obtain ⟨zs, hr⟩ := fieldsV_ok.2 fun w hw => h w (List.mem_cons_of_mem _ hw)
      rw [hf, hr]
      dsimp only
      rw [decide_eq_true hz]
      exact ⟨_, rfl⟩
theorem Done21.part {m : Map} {a b : Schema} {x : Msg} {ys : List Val} (h : Done21 m a b x ys) {l : List Val} (hl : List.Sublist l x.2.1) : ∃ zs, Done21 m a b (x.1, l, ()) zs := by
  obtain ⟨g1, g2, g3⟩ := h.flds
  obtain ⟨zs, hz⟩ := fieldsV_ok.2 fun v hv => fieldsV_ok.1 ⟨ys, h.vals⟩ v (hl.subset hv)
  exact ⟨zs, h.map, ⟨h.msg.sch, h.msg.right, h.msg.ver, fieldsC_none.2 ⟨fun v hv => g1 v (hl.subset hv), g2.sublist hl, fun v hv => g3 v (hl.subset hv)⟩⟩, h.head, hz⟩
end Groat
set_option linter.unusedVariables false
set_option linter.unusedSimpArgs false
namespace Groat
open Go Go.Ref
theorem awake21 : w21_awake = some true := by kernel_rfl
abbrev tVal : Ty := .pair (.int .i64) (.pair .str .unit)
abbrev tMsg : Ty := .pair .str (.pair (.sl 0 tVal) .unit)
theorem greatM_len {m : Map} (h : greatM m = false) : m.2.1.length ≤ 300 := by
  unfold greatM at h
  simp only [Bool.or_eq_false_iff, decide_eq_false_iff_not, Bool.not_eq_false'] at h
  omega
theorem great21_ok {m : Map} {a b : Schema} (h : Wf tMap m) : ∃ g, w21_great m [a, b] = some g ∧ (g = false → MapOk m ∧ m.2.1.length ≤ 300 ∧ a.2.2.1.length ≤ 200 ∧ b.2.2.1.length ≤ 200) := by
  unfold w21_great w21_great_s0
  rw [wf_great h, Option.bind_some]
  cases hg : greatM m with
  | true => exact ⟨true, rfl, fun h => by cases h⟩
  | false =>
    rw [cond_false, within_int (by omega) (by omega)]
    rw [show List.getD ([a, b] : List Schema) (0 : Int).toNat ((0 : Int), (0 : Int), ([] : List Spec), ()) = a from rfl, show List.getD ([a, b] : List Schema) (1 : Int).toNat ((0 : Int), (0 : Int), ([] : List Spec), ()) = b from rfl]
    by_cases h1 : (200 : Int) < (a.2.2.1.length : Int)
    · rw [decide_eq_true h1]; exact ⟨true, rfl, fun h => by cases h⟩
    · rw [decide_eq_false h1, cond_false, within_int (by omega) (by omega)]
      exact ⟨_, rfl, fun hf => ⟨greatM_ok hg, greatM_len hg, by omega, by have := of_decide_eq_false hf; omega⟩⟩
theorem w0 {R : Type} (x : Option R) : within 0 2 x = x := within_int (by omega) (by omega)
theorem w1 {R : Type} (x : Option R) : within 1 2 x = x := within_int (by omega) (by omega)
theorem ga (a b : Schema) : List.getD ([a, b] : List Schema) (0 : Int).toNat ((0 : Int), (0 : Int), ([] : List Spec), ()) = a := rfl
theorem gb (a b : Schema) : List.getD ([a, b] : List Schema) (1 : Int).toNat ((0 : Int), (0 : Int), ([] : List Spec), ()) = b := rfl
end Groat
set_option linter.unusedVariables false
set_option linter.unusedSimpArgs false
namespace Groat
open Go Go.Ref
theorem Apply20_eq (r : Rule) (b : Schema) (t : ByteArray) (hp : r.2.2.2.2.1.length ≤ maxLen) (hb : b.2.2.1.length ≤ maxLen) (ht : t.size ≤ maxLen) : r20_Apply r b t = some (applyR r b t) := by
  unfold r20_Apply r20_Apply_s0 applyR
  rw [Find13_eq b _ hb, Option.bind_some, Apply19_eq _ _ hp, Option.bind_some]
  rcases idx_cases b r.2.2.1 with ⟨h1, h2, h3⟩ | ⟨h1, h2, h3, h4⟩
  · rw [h1, h2, decide_eq_true (by omega : (-1 : Int) < 0)]
    generalize decide (r.1 = 1) = k1
    generalize decide (r.1 = 2) = k2
    generalize decide (r.1 = 3) = k3
    generalize decide (r.1 = 4) = k4
    generalize decide (r.1 = 5) = k5
    generalize applyP r.2.2.2.2.1 t = q
    obtain ⟨q1, q2⟩ := q
    cases k1 <;> cases k2 <;> cases k3 <;> cases k4 <;> cases k5 <;> cases q2 <;> rfl
  · rw [h3, decide_eq_false (by omega : ¬ idxS b.2.2.1 r.2.2.1 0 < 0), within_int h1 h2, h4, Pad01_eq t _ ht, Option.bind_some]
    generalize decide (r.1 = 1) = k1
    generalize decide (r.1 = 2) = k2
    generalize decide (r.1 = 3) = k3
    generalize decide (r.1 = 4) = k4
    generalize decide (r.1 = 5) = k5
    generalize padD t (getS b r.2.2.1).2.2.2.1 = p
    generalize applyP r.2.2.2.2.1 t = q
    obtain ⟨p1, p2⟩ := p
    obtain ⟨q1, q2⟩ := q
    cases k1 <;> cases k2 <;> cases k3 <;> cases k4 <;> cases k5 <;> cases p2 <;> cases q2 <;> rfl
end Groat
set_option linter.unusedVariables false
set_option linter.unusedSimpArgs false
namespace Groat
open Go Go.Ref
def idxR (no : Int) : List Rule → Int → Int
  | [], _ => -1
  | r :: l, i => if r.2.1 = no then i else idxR no l (i + 1)
theorem idxR_cases (no : Int) : ∀ (l : List Rule) (i : Int), 0 ≤ i → (idxR no l i = -1 ∧ l.find? (fun r => decide (r.2.1 = no)) = none) ∨ (i ≤ idxR no l i ∧ idxR no l i < i + l.length ∧ l.find? (fun r => decide (r.2.1 = no)) = some (l.getD (idxR no l i - i).toNat rule0))
  | [], i, _ => .inl ⟨rfl, rfl⟩
  | r :: l, i, h => by
    unfold idxR
    rw [List.find?_cons]
    by_cases e : r.2.1 = no
    · rw [if_pos e, decide_eq_true e]
      right
      refine ⟨by omega, by simp only [List.length_cons]; omega, ?_⟩
      rw [show (i - i).toNat = 0 by omega]; rfl
    · rw [if_neg e, decide_eq_false e]
      rcases idxR_cases no l (i + 1) (by omega) with ⟨h1, h2⟩ | ⟨h1, h2, h3⟩
      · exact .inl ⟨h1, h2⟩
      · right
        refine ⟨by omega, by simp only [List.length_cons]; omega, ?_⟩
        rw [h3]
        congr 1
        have : (idxR no l (i + 1) - i).toNat = (idxR no l (i + 1) - (i + 1)).toNat + 1 := by omega
        rw [this]; rfl
def exR (r : Int) : Sum Int Unit := bif decide (r < 0) then .inr () else .inl r
theorem idxR_run (no : Int) : ∀ (l : List Rule) (i : Int), 0 ≤ i → runI (fun i (x : Rule) (s : Unit) K => (bif (decide (x.2.1 = no)) then some (Sum.inl i) else K s)) (fun _ => some (Sum.inr ())) l i () = some (exR (idxR no l i))
  | [], i, _ => rfl
  | x :: r, i, h => by
    rw [runI, idxR]
    by_cases e : x.2.1 = no
    · rw [decide_eq_true e, cond_true, if_pos e]
      unfold exR
      rw [decide_eq_false (by omega)]; rfl
    · rw [decide_eq_false e, cond_false, if_neg e]
      exact idxR_run no r (i + 1) (by omega)
theorem Rule21_eq (m : Map) (no : Int) (h : m.2.1.length ≤ maxLen) : r21_rule m no = some (idxR no m.2.1 0) := by
  unfold r21_rule r21_rule_s0
  dsimp only
  have := loopI rule0 m.2.1 h (fun i (x : Rule) (s : Unit) K => (bif (decide (x.2.1 = no)) then some (Sum.inl i) else K s)) (fun _ => some (Sum.inr ()))
    (fun k i s => r21_rule_l0 k no i m) (fun k i s => rfl) ()
  rw [this, idxR_run no m.2.1 0 (Int.le_refl _), some_bind]
  unfold exR
  rcases idxR_cases no m.2.1 0 (Int.le_refl _) with ⟨h1, _⟩ | ⟨h1, _⟩
  · rw [h1]; rfl
  · rw [decide_eq_false (by omega)]; rfl
abbrev Out21 := ByteArray × List Val × Map × Msg × Fault
theorem vals_run (m : Map) (b : Schema) (t : ByteArray) (hm : MapOk m) (hb : b.2.2.1.length ≤ maxLen) : ∀ (l : List Val) (i : Int) (s : List Val), s.length + l.length ≤ 1000000 → (∀ v ∈ l, v.2.1.size ≤ 1099511627776) →
    (∃ f s', fieldsV m b l = .inl f ∧ runI (fun i (v : Val) (s : List Val) K => ((r21_rule m v.1).bind fun r4 => (bif (decide (r4 < (0 : Int))) then some (Sum.inl (t, s, m, msg0, ((9 : Int), v.1, ()))) else (within r4 m.2.1.length ((r20_Apply (List.getD m.2.1 r4.toNat rule0) b v.2.1).bind fun r5 => (bif (!(decide (r5.2 = (0 : Int)))) then some (Sum.inl (t, s, m, msg0, (r5.2, v.1, ()))) else (bif (decide ((s.length + (List.length ([r5.1] : List Val))) * 24 ≤ 140737488355328)) then K (s ++ ([r5.1] : List Val)) else none))))))) (fun s => some (Sum.inr (t, s, m, msg0, fault0))) l i s = some (.inl (t, s', m, msg0, f) : Sum Out21 Out21)) ∨
    (∃ ys, fieldsV m b l = .inr ys ∧ runI (fun i (v : Val) (s : List Val) K => ((r21_rule m v.1).bind fun r4 => (bif (decide (r4 < (0 : Int))) then some (Sum.inl (t, s, m, msg0, ((9 : Int), v.1, ()))) else (within r4 m.2.1.length ((r20_Apply (List.getD m.2.1 r4.toNat rule0) b v.2.1).bind fun r5 => (bif (!(decide (r5.2 = (0 : Int)))) then some (Sum.inl (t, s, m, msg0, (r5.2, v.1, ()))) else (bif (decide ((s.length + (List.length ([r5.1] : List Val))) * 24 ≤ 140737488355328)) then K (s ++ ([r5.1] : List Val)) else none))))))) (fun s => some (Sum.inr (t, s, m, msg0, fault0))) l i s = some (.inr (t, s ++ ys, m, msg0, fault0) : Sum Out21 Out21))
  | [], i, s, _, _ => .inr ⟨[], rfl, by simp [runI]⟩
  | v :: r, i, s, h, ht => by
    simp only [List.length_cons] at h
    have hl := hm.len
    have hv := ht v List.mem_cons_self
    rw [runI, Rule21_eq m v.1 (by rw [maxLen_eq]; omega), some_bind, fieldsV]
    unfold findR
    rcases idxR_cases v.1 m.2.1 0 (Int.le_refl _) with ⟨h1, h2⟩ | ⟨h1, h2, h3⟩
    · rw [h1, h2, decide_eq_true (by omega : (-1 : Int) < 0)]
      exact .inl ⟨_, s, rfl, rfl⟩
    · rw [Int.sub_zero] at h3
      have hq : List.getD m.2.1 (idxR v.1 m.2.1 0).toNat rule0 ∈ m.2.1 := by
        rw [List.getD_eq_getElem?_getD, List.getElem?_eq_getElem (by omega)]
        exact List.getElem_mem _
      rw [h3, decide_eq_false (by omega : ¬ idxR v.1 m.2.1 0 < 0), cond_false, within_int h1 (by omega)]
      generalize List.getD m.2.1 (idxR v.1 m.2.1 0).toNat rule0 = q at *
      have qp := (hm.rules q hq).pairs.len
      dsimp only
      rw [Apply20_eq q b v.2.1 (by rw [maxLen_eq]; omega) hb (by rw [maxLen_eq]; omega), some_bind]
      generalize applyR q b v.2.1 = y
      cases decide (y.2 = 0) with
      | false => exact .inl ⟨_, s, rfl, rfl⟩
      | true =>
        rw [Bool.not_true, cond_false, cond_false, decide_eq_true (by simp only [List.length_singleton]; omega), cond_true]
        rcases vals_run m b t hm hb r (i + 1) (s ++ [y.1]) (by rw [List.length_append, List.length_singleton]; omega) (fun w hw => ht w (List.mem_cons_of_mem _ hw)) with ⟨f, s', e1, e2⟩ | ⟨ys, e1, e2⟩
        · exact .inl ⟨f, s', by rw [e1], e2⟩
        · refine .inr ⟨y.1 :: ys, by rw [e1], ?_⟩
          rw [e2, List.append_assoc]; rfl
theorem consts21_run {ρ : Type} (fin : List Val → Option ρ) : ∀ (l : List Rule) (i : Int) (s : List Val), s.length + l.length ≤ 1000000 →
    runI (fun i (r : Rule) (s : List Val) K => (bif (decide (r.1 = (3 : Int))) then (bif (decide ((s.length + (List.length ([(r.2.2.1, r.2.2.2.1, ())] : List Val))) * 24 ≤ 140737488355328)) then K (s ++ ([(r.2.2.1, r.2.2.2.1, ())] : List Val)) else none) else K s)) fin l i s = fin (s ++ constL l)
  | [], i, s, _ => by show fin s = _; simp [constL]
  | r :: l, i, s, h => by
    simp only [List.length_cons] at h
    rw [runI]
    unfold constL
    rw [List.filter_cons]
    cases decide (r.1 = 3) with
    | false =>
      rw [cond_false, if_neg (by decide)]
      exact consts21_run fin l (i + 1) s (by omega)
    | true =>
      rw [cond_true, if_pos rfl, decide_eq_true (by simp only [List.length_singleton]; omega), cond_true]
      refine (consts21_run fin l (i + 1) _ (by rw [List.length_append, List.length_singleton]; omega)).trans ?_
      rw [List.append_assoc]; rfl
theorem bucket1_run {ρ : Type} (no : Int) (fin : Msg → Option ρ) : ∀ (l : List Val) (i : Int) (s : Msg), s.2.1.length + l.length ≤ 1000000000 →
    runI (fun i (v : Val) (s : Msg) K => (bif (decide (v.1 = no)) then (bif (decide ((s.2.1.length + (List.length ([v] : List Val))) * 24 ≤ 140737488355328)) then K (s.1, (s.2.1 ++ ([v] : List Val)), ()) else none) else K s)) fin l i s = fin (s.1, s.2.1 ++ l.filter (fun v => decide (v.1 = no)), ())
  | [], i, s, _ => by show fin s = _; simp
  | v :: l, i, s, h => by
    simp only [List.length_cons] at h
    rw [runI, List.filter_cons]
    cases decide (v.1 = no) with
    | false =>
      rw [cond_false, if_neg (by decide)]
      exact bucket1_run no fin l (i + 1) s (by omega)
    | true =>
      rw [cond_true, if_pos rfl, decide_eq_true (by simp only [List.length_singleton]; omega), cond_true]
      refine (bucket1_run no fin l (i + 1) _ (by show (s.2.1 ++ [v]).length + _ ≤ _; rw [List.length_append, List.length_singleton]; omega)).trans ?_
      show fin (s.1, (s.2.1 ++ [v]) ++ _, ()) = _
      rw [List.append_assoc]; rfl
theorem inner21 (vs : List Val) (hv : vs.length ≤ 1000000) (no : Int) (s : Msg) (h : s.2.1.length + vs.length ≤ 1000000000) : r21_Translate_l3 FUEL vs no 0 msg0 fault0 s = some (vs, no, msg0, fault0, (s.1, s.2.1 ++ vs.filter (fun v => decide (v.1 = no)), ())) := by
  have := loopJ vnil vs (by rw [maxLen_eq]; omega) (fun i (v : Val) (s : Msg) K => (bif (decide (v.1 = no)) then (bif (decide ((s.2.1.length + (List.length ([v] : List Val))) * 24 ≤ 140737488355328)) then K (s.1, (s.2.1 ++ ([v] : List Val)), ()) else none) else K s)) (fun s => some (vs, no, msg0, fault0, s))
    (fun k i s => r21_Translate_l3 k vs no i msg0 fault0 s) (fun k i s h0 h1 => by
      show r21_Translate_l3 (k + 1) vs no i msg0 fault0 s = _
      conv => lhs; unfold r21_Translate_l3 r21_Translate_s8
      rw [decide_eq_true h1, cond_true, within_int h0 h1, within_int h0 h1]) (fun k s => by
      show r21_Translate_l3 (k + 1) vs no vs.length msg0 fault0 s = _
      conv => lhs; unfold r21_Translate_l3 r21_Translate_s8
      rw [decide_eq_false (by omega), cond_false]) s
  rw [this, bucket1_run no _ _ _ _ h]
theorem outer21 (vs : List Val) (hv : vs.length ≤ 1000000) : ∀ (n j k : Nat) (s : Msg), j + n = 129 → n < k → s.2.1.length + (n + 1) * vs.length ≤ 1000000000 → r21_Translate_l2 k vs (j : Int) msg0 fault0 s = some (msg0, fault0, (s.1, s.2.1 ++ bucket vs n j, ()))
  | n, j, 0, s, _, hk, _ => by omega
  | 0, j, k + 1, s, hj, hk, _ => by
    unfold r21_Translate_l2 r21_Translate_s6
    rw [decide_eq_false (by omega), cond_false]
    simp [bucket]
  | n + 1, j, k + 1, s, hj, hk, h => by
    unfold r21_Translate_l2 r21_Translate_s6
    have hmul : (n + 1 + 1) * vs.length = (n + 1) * vs.length + vs.length := by rw [Nat.add_mul, Nat.one_mul]
    rw [decide_eq_true (by omega), cond_true]
    dsimp only
    rw [inner21 vs hv (j : Int) s (by rw [hmul] at h; omega), some_bind]
    unfold r21_Translate_s9
    dsimp only
    rw [i64_succ (by omega)]
    have hf : (vs.filter fun v => decide (v.1 = (j : Int))).length ≤ vs.length := List.length_filter_le _ _
    refine (outer21 vs hv n (j + 1) k _ (by omega) (by omega) (by
      show (s.2.1 ++ vs.filter fun v => decide (v.1 = (j : Int))).length + _ ≤ _
      rw [List.length_append]
      rw [hmul] at h
      omega)).trans ?_
    show some (msg0, fault0, (s.1, (s.2.1 ++ vs.filter fun v => decide (v.1 = (j : Int))) ++ bucket vs n (j + 1), ())) = _
    rw [List.append_assoc]
    rfl
theorem fieldsV_len {m : Map} {b : Schema} : ∀ {l ys : List Val}, fieldsV m b l = .inr ys → ys.length = l.length
  | [], ys, h => by cases h; rfl
  | v :: r, ys, h => by
    rw [fieldsV] at h
    cases hf : findR m v.1 with
    | none => rw [hf] at h; cases h
    | some q =>
      rw [hf] at h
      dsimp only at h
      cases hz : decide ((applyR q b v.2.1).2 = 0) with
      | false => rw [hz] at h; cases h
      | true =>
        rw [hz, Bool.not_true, cond_false] at h
        cases hr : fieldsV m b r with
        | inl f => rw [hr] at h; cases h
        | inr zs =>
          rw [hr] at h
          cases h
          rw [List.length_cons, List.length_cons, fieldsV_len hr]
theorem constL_len (l : List Rule) : (constL l).length ≤ l.length := by
  unfold constL
  rw [List.length_map]
  exact List.length_filter_le _ _
theorem Right21_eq (m : Map) (a b : Schema) (h : MapOk m) (ha : a.2.2.1.length ≤ maxLen) (hb : b.2.2.1.length ≤ maxLen) : r21_Right m a b = some (decide ((mapC m a b).1 = 0)) := by
  unfold r21_Right r21_Right_s0
  rw [Check21_eq m a b h ha hb, some_bind]
theorem Translate21_eq (m : Map) (a b : Schema) (x : Msg) (hm : MapOk m) (hm2 : m.2.1.length ≤ 300) (hx : MsgOk x) (hx2 : x.2.1.length ≤ 200) (ha : a.2.2.1.length ≤ maxLen) (hb : b.2.2.1.length ≤ maxLen) : r21_Translate m a b x = some (transD m a b x) := by
  have hl := hm.mtis.len
  unfold r21_Translate r21_Translate_s0 transD
  rw [Right21_eq m a b hm ha hb, some_bind]
  cases decide ((mapC m a b).1 = 0) with
  | false => rfl
  | true =>
    rw [Bool.not_true, cond_false, cond_false, Check16_eq a x ha hx, some_bind]
    cases decide ((msgC a x).1 = 0) with
    | false => rfl
    | true =>
      rw [Bool.not_true, cond_false, cond_false, Apply19_eq _ _ (by rw [maxLen_eq]; omega), some_bind]
      cases (applyP m.1 x.1).2 with
      | false => rfl
      | true =>
        rw [Bool.not_true, cond_false, cond_false]
        dsimp only
        have h1 := loopJ vnil x.2.1 (by rw [maxLen_eq]; omega) (fun i (v : Val) (s : List Val) K => ((r21_rule m v.1).bind fun r4 => (bif (decide (r4 < (0 : Int))) then some (Sum.inl ((applyP m.1 x.1).1, s, m, msg0, ((9 : Int), v.1, ()))) else (within r4 m.2.1.length ((r20_Apply (List.getD m.2.1 r4.toNat rule0) b v.2.1).bind fun r5 => (bif (!(decide (r5.2 = (0 : Int)))) then some (Sum.inl ((applyP m.1 x.1).1, s, m, msg0, (r5.2, v.1, ()))) else (bif (decide ((s.length + (List.length ([r5.1] : List Val))) * 24 ≤ 140737488355328)) then K (s ++ ([r5.1] : List Val)) else none))))))) (fun s => some (Sum.inr ((applyP m.1 x.1).1, s, m, msg0, fault0)))
          (fun k i s => r21_Translate_l0 k (applyP m.1 x.1).1 s i m b x msg0 fault0 msg0) (fun k i s h0 h1 => by
            show r21_Translate_l0 (k + 1) (applyP m.1 x.1).1 s i m b x msg0 fault0 msg0 = _
            conv => lhs; unfold r21_Translate_l0 r21_Translate_s1
            have hw : ∀ {R : Type} (z : Option R), within i x.2.1.length z = z := fun z => within_int h0 h1
            simp only [hw, decide_eq_true h1, cond_true]) (fun k s => by
            show r21_Translate_l0 (k + 1) (applyP m.1 x.1).1 s x.2.1.length m b x msg0 fault0 msg0 = _
            conv => lhs; unfold r21_Translate_l0 r21_Translate_s1
            rw [decide_eq_false (by omega), cond_false]) []
        rw [h1]
        rcases vals_run m b (applyP m.1 x.1).1 hm hb x.2.1 0 [] (by simp; omega) hx.txt with ⟨f, s', e1, e2⟩ | ⟨ys, e1, e2⟩
        · rw [e2, e1]; rfl
        · rw [e2, e1, some_bind]
          rw [Sum.elim_inr]
          unfold r21_Translate_s3
          dsimp only
          rw [List.nil_append]
          have hys := fieldsV_len e1
          have h2 := loopJ rule0 m.2.1 (by rw [maxLen_eq]; omega) (fun i (r : Rule) (s : List Val) K => (bif (decide (r.1 = (3 : Int))) then (bif (decide ((s.length + (List.length ([(r.2.2.1, r.2.2.2.1, ())] : List Val))) * 24 ≤ 140737488355328)) then K (s ++ ([(r.2.2.1, r.2.2.2.1, ())] : List Val)) else none) else K s)) (fun s => some ((applyP m.1 x.1).1, s, msg0, fault0))
            (fun k i s => r21_Translate_l1 k (applyP m.1 x.1).1 s i m msg0 fault0) (fun k i s h0 h1 => by
              show r21_Translate_l1 (k + 1) (applyP m.1 x.1).1 s i m msg0 fault0 = _
              conv => lhs; unfold r21_Translate_l1 r21_Translate_s4
              have hw : ∀ {R : Type} (z : Option R), within i m.2.1.length z = z := fun z => within_int h0 h1
              simp only [hw, decide_eq_true h1, cond_true]) (fun k s => by
              show r21_Translate_l1 (k + 1) (applyP m.1 x.1).1 s m.2.1.length m msg0 fault0 = _
              conv => lhs; unfold r21_Translate_l1 r21_Translate_s4
              rw [decide_eq_false (by omega), cond_false]) ys
          rw [h2, consts21_run _ _ _ _ (by omega), some_bind]
          unfold r21_Translate_s5
          dsimp only
          have hc := constL_len m.2.1
          have hvs : (ys ++ constL m.2.1).length ≤ 500 := by rw [List.length_append]; omega
          have h3 := outer21 (ys ++ constL m.2.1) (by omega) 127 2 FUEL ((applyP m.1 x.1).1, [], ()) (by omega) (by rw [fuel_eq]; omega) (by
            show ([] : List Val).length + _ ≤ _
            simp only [List.length_nil]
            omega)
          rw [show ((2 : Nat) : Int) = (2 : Int) from rfl] at h3
          rw [h3, some_bind]
          rfl
theorem Copy16_eq (m : Msg) (h : m.2.1.length ≤ 1000000) : r16_Copy m = some m := by
  unfold r16_Copy r16_Copy_s0
  rw [decide_eq_true (by simp; omega)]
  rfl
theorem pure_XlateTranslates (m : Map) (s : List Schema) (x : Msg) (hm : Wf tMap m) (hs : Wf (.arr 2 tSchema) s) (hx : Wf tMsg x) : w21_XlateTranslates m s x = some true := by
  obtain ⟨a, b, rfl⟩ := two_of hs.1
  unfold w21_XlateTranslates w21_XlateTranslates_s0
  rw [awake21, some_bind, Bool.not_true, cond_false]
  obtain ⟨g, hg, hok⟩ := great21_ok (a := a) (b := b) hm
  rw [hg, some_bind]
  cases g with
  | true => rfl
  | false =>
    obtain ⟨h, hl, ha, hb⟩ := hok rfl
    rw [cond_false, Great16_eq x hx.2.1.1, some_bind]
    cases hgx : greatV x with
    | true => rfl
    | false =>
      obtain ⟨xo, xl, _⟩ := greatV_ok hgx
      have la : a.2.2.1.length ≤ maxLen := by rw [maxLen_eq]; omega
      have lb : b.2.2.1.length ≤ maxLen := by rw [maxLen_eq]; omega
      rw [cond_false]
      simp only [w0, w1, ga, gb]
      rw [Copy21_eq m h, some_bind, Copy16_eq x (by omega), some_bind, Translate_eq m a b x h (by omega) xo (by omega) la lb, some_bind, Translate21_eq m a b x h hl xo (by omega) la lb, some_bind, ← trans_same]
      have hlen : (transC m a b x).1.2.1.length ≤ maxLen := by
        rcases trans_cases m a b x with ⟨f, hf, e⟩ | ⟨ys, hd, e⟩
        · rw [e]; show ([] : List Val).length ≤ _; decide
        · rw [e, maxLen_eq]
          exact Nat.le_trans (hd.ok h xo).len (by omega)
      rw [Same16_eq _ _ hlen, some_bind]
      simp
end Groat
