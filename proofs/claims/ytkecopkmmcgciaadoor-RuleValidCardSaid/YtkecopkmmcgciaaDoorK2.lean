/- No condition. -/
import Derived.Test.YtkecopkmmcgciaaDoorK1
import Derived.KernelRfl
import Derived.Laws.RangeString
set_option linter.unusedVariables false
set_option linter.unusedSimpArgs false
namespace Groat
open Go Go.Ref
theorem fuel_eq : FUEL = 18446744073709551616 := by unfold FUEL; rfl
theorem maxLen_eq : maxLen = 9223372036854775807 := rfl
theorem i64_id {x : Int} (h1 : -9223372036854775808 ≤ x) (h2 : x ≤ 9223372036854775807) : IntKind.i64.wrap x = x := wrap64 h1 h2
theorem i64_nat {n : Nat} (h : n ≤ 9223372036854775807) : IntKind.i64.wrap (n : Int) = n := wrap64 (by omega) (by omega)
theorem i64_succ {j : Nat} (h : j < 9223372036854775807) : IntKind.i64.wrap ((j : Int) + 1) = ((j + 1 : Nat) : Int) := by
  rw [wrap64 (by omega) (by omega)]; rfl
theorem within_nat_lt {R : Type} {j n : Nat} {x : Option R} (h : j < n) : within (j : Int) n x = x := within_at h
theorem within_int {R : Type} {i : Int} {n : Nat} {x : Option R} (h0 : 0 ≤ i) (h : i < n) : within i n x = x := by
  unfold within
  rw [decide_eq_true h0, decide_eq_true h]; rfl
theorem bif_dec {R : Type} {p : Prop} [Decidable p] (x y : R) : (bif decide p then x else y) = if p then x else y := by
  by_cases h : p <;> simp [h]
def bl (s : ByteArray) : List Int := s.data.toList.map fun b => (b.toNat : Int)
theorem bl_inj {a b : ByteArray} (h : bl a = bl b) : a = b := by
  apply ByteArray.ext
  apply Array.ext'
  unfold bl at h
  have : Function.Injective (fun b : UInt8 => (b.toNat : Int)) := fun x y hxy => UInt8.toNat_inj.1 (Int.ofNat.inj hxy)
  exact (List.map_inj_right (fun x y h => this h)).1 h
theorem bl_eq {a b : ByteArray} : a = b ↔ bl a = bl b := ⟨fun h => by rw [h], bl_inj⟩
theorem bl_length (s : ByteArray) : (bl s).length = s.size := by unfold bl; rw [List.length_map]; rfl
theorem bl_append (a b : ByteArray) : bl (a ++ b) = bl a ++ bl b := by simp [bl, ByteArray.data_append]
theorem bl_extract (s : ByteArray) (i j : Nat) : bl (s.extract i j) = ((bl s).take j).drop i := by
  unfold bl
  rw [ByteArray.data_extract, Array.toList_extract, List.extract_eq_drop_take', List.map_drop, List.map_take]
theorem bl_byteAt (s : ByteArray) (i : Nat) : byteAt s i = (bl s).getD i 0 := by
  unfold byteAt bl
  split
  · rename_i h
    have h' : i < s.data.toList.length := h
    rw [List.getD_eq_getElem?_getD, List.getElem?_map, List.getElem?_eq_getElem h']
    rfl
  · rename_i h
    have h' : s.data.toList.length ≤ i := Nat.le_of_not_lt h
    rw [List.getD_eq_getElem?_getD, List.getElem?_eq_none (by simpa using h')]
    rfl
def isByte (n : Int) : Prop := 0 ≤ n ∧ n < 256
theorem bl_byte {s : ByteArray} {x : Int} (h : x ∈ bl s) : isByte x := by
  unfold bl at h
  obtain ⟨b, _, rfl⟩ := List.mem_map.1 h
  have := b.toNat_lt
  unfold isByte
  omega
theorem bl_strOf {xs : List Int} (h : ∀ x ∈ xs, isByte x) : bl (strOf xs) = xs := by
  simp only [bl, strOf, List.map_map]
  conv => rhs; rw [← List.map_id xs]
  apply List.map_congr_left
  intro x hx
  have := h x hx
  unfold isByte at this
  simp only [Function.comp, id]
  rw [UInt8.toNat_ofNat_of_lt' (by show x.toNat < 256; omega)]
  omega
theorem bl_empty : bl (bs []) = [] := rfl
theorem bl_nil_iff {s : ByteArray} : s = bs [] ↔ bl s = [] := by rw [bl_eq, bl_empty]
theorem strOf_size (xs : List Int) : (strOf xs).size = xs.length := by rw [← bl_length]; unfold bl strOf; simp
section
variable {α σ ρ : Type}
end
end Groat
namespace Groat
open Go Go.Ref
section
variable {α σ ρ : Type}
def runI (g : Int → α → σ → (σ → Option ρ) → Option ρ) (fin : σ → Option ρ) : List α → Int → σ → Option ρ
  | [], _, s => fin s
  | x :: r, i, s => g i x s fun s' => runI g fin r (i + 1) s'
theorem loopI' (d : α) (xs : List α) (hlen : xs.length ≤ 9223372036854775807) (g : Int → α → σ → (σ → Option ρ) → Option ρ) (fin : σ → Option ρ) (L : Nat → Int → σ → Option ρ)
    (step : ∀ k (i : Int) s, L (k + 1) i s = bif decide (i < (xs.length : Int)) then within i xs.length (g i (xs.getD i.toNat d) s fun s' => L k (IntKind.i64.wrap (i + 1)) s') else fin s) :
    ∀ (m j k : Nat) (s : σ), j + m = xs.length → m < k → L k j s = runI g fin (xs.drop j) j s
  | 0, j, k, s, hj, hk => by
    obtain ⟨k, rfl⟩ : ∃ k', k = k' + 1 := ⟨k - 1, by omega⟩
    rw [step, decide_eq_false (by omega), List.drop_eq_nil_of_le (by omega)]; rfl
  | m + 1, j, k, s, hj, hk => by
    obtain ⟨k, rfl⟩ : ∃ k', k = k' + 1 := ⟨k - 1, by omega⟩
    have hlt : j < xs.length := by omega
    rw [step, decide_eq_true (by omega), cond_true, within_nat_lt hlt, List.drop_eq_getElem_cons hlt, runI]
    have hx : xs.getD ((j : Int)).toNat d = xs[j] := by rw [Int.toNat_natCast, List.getD_eq_getElem?_getD, List.getElem?_eq_getElem hlt]; rfl
    rw [hx]
    congr 1
    funext s'
    rw [i64_succ (by omega), loopI' d xs hlen g fin L step m (j + 1) k s' (by omega) (by omega)]
    rfl
theorem loopI (d : α) (xs : List α) (hlen : xs.length ≤ maxLen) (g : Int → α → σ → (σ → Option ρ) → Option ρ) (fin : σ → Option ρ) (L : Nat → Int → σ → Option ρ)
    (step : ∀ k (i : Int) s, L (k + 1) i s = bif decide (i < (xs.length : Int)) then within i xs.length (g i (xs.getD i.toNat d) s fun s' => L k (IntKind.i64.wrap (i + 1)) s') else fin s) (s : σ) : L FUEL 0 s = runI g fin xs 0 s := by
  rw [maxLen_eq] at hlen
  have := loopI' d xs hlen g fin L step xs.length 0 FUEL s (by omega) (by rw [fuel_eq]; omega)
  rw [List.drop_zero] at this
  exact this
theorem loopJ' (d : α) (xs : List α) (hlen : xs.length ≤ 9223372036854775807) (g : Int → α → σ → (σ → Option ρ) → Option ρ) (fin : σ → Option ρ) (L : Nat → Int → σ → Option ρ)
    (step : ∀ k (i : Int) s, 0 ≤ i → i < (xs.length : Int) → L (k + 1) i s = g i (xs.getD i.toNat d) s fun s' => L k (IntKind.i64.wrap (i + 1)) s') (stop : ∀ k s, L (k + 1) (xs.length : Int) s = fin s) :
    ∀ (m j k : Nat) (s : σ), j + m = xs.length → m < k → L k j s = runI g fin (xs.drop j) j s
  | 0, j, k, s, hj, hk => by
    obtain ⟨k, rfl⟩ : ∃ k', k = k' + 1 := ⟨k - 1, by omega⟩
    have : j = xs.length := by omega
    subst this
    rw [stop, List.drop_length]; rfl
  | m + 1, j, k, s, hj, hk => by
    obtain ⟨k, rfl⟩ : ∃ k', k = k' + 1 := ⟨k - 1, by omega⟩
    have hlt : j < xs.length := by omega
    rw [step k j s (by omega) (by omega), List.drop_eq_getElem_cons hlt, runI]
    have hx : xs.getD ((j : Int)).toNat d = xs[j] := by rw [Int.toNat_natCast, List.getD_eq_getElem?_getD, List.getElem?_eq_getElem hlt]; rfl
    rw [hx]
    congr 1
    funext s'
    rw [i64_succ (by omega), loopJ' d xs hlen g fin L step stop m (j + 1) k s' (by omega) (by omega)]
    rfl
theorem loopJ (d : α) (xs : List α) (hlen : xs.length ≤ maxLen) (g : Int → α → σ → (σ → Option ρ) → Option ρ) (fin : σ → Option ρ) (L : Nat → Int → σ → Option ρ)
    (step : ∀ k (i : Int) s, 0 ≤ i → i < (xs.length : Int) → L (k + 1) i s = g i (xs.getD i.toNat d) s fun s' => L k (IntKind.i64.wrap (i + 1)) s') (stop : ∀ k s, L (k + 1) (xs.length : Int) s = fin s) (s : σ) : L FUEL 0 s = runI g fin xs 0 s := by
  rw [maxLen_eq] at hlen
  have := loopJ' d xs hlen g fin L step stop xs.length 0 FUEL s (by omega) (by rw [fuel_eq]; omega)
  rw [List.drop_zero] at this
  exact this
end
end Groat
set_option linter.unusedVariables false
set_option linter.unusedSimpArgs false
set_option maxRecDepth 100000
namespace Groat
open Go Go.Ref
theorem ofInt_nat' (n a : Nat) (h : a < 2 ^ n) : (BitVec.ofInt n (a : Int)).toNat = a := by
  rw [BitVec.toNat_ofInt]
  have h2 : ((a : Int) % ((2 ^ n : Nat) : Int)) = ((a % 2 ^ n : Nat) : Int) := by rfl
  rw [h2, Int.toNat_natCast, Nat.mod_eq_of_lt h]
theorem and_i64 {a b : Nat} (ha : a < 9223372036854775808) (hb : b < 9223372036854775808) : ibits .and .i64 a b = ((a &&& b : Nat) : Int) := by
  simp only [ibits, BitVec.toNat_and, ofInt_nat' IntKind.i64.bits a (Nat.lt_trans ha (by decide)), ofInt_nat' IntKind.i64.bits b (Nat.lt_trans hb (by decide))]
  have := Nat.lt_of_le_of_lt (Nat.and_le_left (n := a) (m := b)) ha
  exact i64_nat (by omega)
theorem fdiv_nat (a : Nat) (k : Nat) (hk : k ≤ 64) : Int.fdiv (a : Int) (2 ^ min ((k : Int)).toNat 64) = ((a / 2 ^ k : Nat) : Int) := by
  rw [Int.fdiv_eq_ediv_of_nonneg _ (Int.pow_nonneg (by decide)), Int.toNat_natCast, Nat.min_eq_left hk]
  rfl
section
variable {c0 c1 c2 c3 c4 c5 c6 c7 : Nat}
end
end Groat
set_option linter.unusedVariables false
set_option linter.unusedSimpArgs false
namespace Groat
open Go Go.Ref
end Groat
set_option linter.unusedVariables false
set_option linter.unusedSimpArgs false
namespace Groat
open Go Go.Ref
theorem ofInt_nat (n a : Nat) (h : a < 2 ^ n) : (BitVec.ofInt n (a : Int)).toNat = a := by
  rw [BitVec.toNat_ofInt]
  have h2 : ((a : Int) % ((2 ^ n : Nat) : Int)) = ((a % 2 ^ n : Nat) : Int) := by rfl
  rw [h2, Int.toNat_natCast, Nat.mod_eq_of_lt h]
theorem ibits_or_nat {k : IntKind} {a b : Nat} (ha : a < 2 ^ k.bits) (hb : b < 2 ^ k.bits) : ibits .or k a b = k.wrap ((a ||| b : Nat) : Int) := by
  simp only [ibits, BitVec.toNat_or, ofInt_nat _ _ ha, ofInt_nat _ _ hb]
theorem or_bytes {x y : Int} (hx : isByte x) (hy : isByte y) : ibits .or .i64 (IntKind.i64.wrap (IntKind.i64.wrap x * 2 ^ min (8 : Int).toNat 64)) (IntKind.i64.wrap y) = x * 256 + y := by
  unfold isByte at hx hy
  obtain ⟨x, rfl⟩ := Int.eq_ofNat_of_zero_le hx.1
  obtain ⟨y, rfl⟩ := Int.eq_ofNat_of_zero_le hy.1
  rw [i64_nat (by omega), i64_nat (by omega)]
  have h1 : ((x : Int) * (2 : Int) ^ min (8 : Int).toNat 64) = ((x <<< 8 : Nat) : Int) := by
    rw [Nat.shiftLeft_eq]; rfl
  have h3 : x <<< 8 = x * 256 := by rw [Nat.shiftLeft_eq]
  rw [h1, i64_nat (by omega), ibits_or_nat (by simp only [IntKind.bits]; omega) (by simp only [IntKind.bits]; omega), ← Nat.shiftLeft_add_eq_or_of_lt (by omega : y < 2 ^ 8), h3, i64_nat (by omega)]
  omega
theorem getD_byte {b : List Int} (hb : ∀ x ∈ b, isByte x) (i : Nat) : isByte (b.getD i 0) := by
  rw [List.getD_eq_getElem?_getD]
  cases h : b[i]? with
  | none => exact ⟨by simp, by simp⟩
  | some x => exact hb x (List.mem_of_getElem? h)
end Groat
set_option linter.unusedVariables false
set_option linter.unusedSimpArgs false
namespace Groat
open Go Go.Ref
section
variable {α : Type} [DecidableEq α]
end
end Groat
set_option linter.unusedVariables false
set_option linter.unusedSimpArgs false
namespace Groat
open Go Go.Ref
end Groat
set_option linter.unusedVariables false
set_option linter.unusedSimpArgs false
namespace Groat
open Go Go.Ref
abbrev Spec := Int × Int × Int × Int × Int × Unit
abbrev Schema := Int × Int × List Spec × Unit
abbrev spec0 : Spec := (0, 0, 0, 0, 0, ())
theorem sets_eq (c : Int) : class_sets c = some (if c = 1 then 1 else if c = 2 then 2 else if c = 3 then 3 else if c = 4 then 7 else if c = 5 then 15 else if c = 6 then 15 else 0) := by
  unfold class_sets class_sets_s0
  simp only [bif_dec]
  repeat' split
  all_goals rfl
theorem Known_eq (c : Int) : class_Known c = some (decide (1 ≤ c ∧ c ≤ 6)) := by
  unfold class_Known class_Known_s0
  rw [sets_eq, some_bind]
  congr 1
  by_cases h1 : c = 1
  · subst h1; rfl
  by_cases h2 : c = 2
  · subst h2; rfl
  by_cases h3 : c = 3
  · subst h3; rfl
  by_cases h4 : c = 4
  · subst h4; rfl
  by_cases h5 : c = 5
  · subst h5; rfl
  by_cases h6 : c = 6
  · subst h6; rfl
  rw [if_neg h1, if_neg h2, if_neg h3, if_neg h4, if_neg h5, if_neg h6, decide_eq_false (p := 1 ≤ c ∧ c ≤ 6) (by omega)]
  rfl
theorem Most2 : prefix_Most 2 = some 99 := by kernel_rfl
theorem Most3 : prefix_Most 3 = some 999 := by kernel_rfl
def specC (s : Spec) : Int :=
  if s.1 < 2 ∨ 128 < s.1 then 1 else if s.2.1 < 1 ∨ 6 < s.2.1 then 6 else if s.2.2.1 < 1 ∨ 3 < s.2.2.1 then 3
  else if s.2.2.2.1 < 1 ∨ s.2.2.2.2.1 < s.2.2.2.1 ∨ (s.2.2.1 = 2 ∧ 99 < s.2.2.2.2.1) ∨ 999 < s.2.2.2.2.1 ∨ (s.2.2.1 = 1 ∧ ¬ s.2.2.2.1 = s.2.2.2.2.1) then 5
  else if s.2.2.1 = 1 ∧ s.2.1 = 6 then 13 else 0
theorem specCheck_eq (s : Spec) : spec_Check s = some (specC s) := by
  obtain ⟨no, c, f, mn, mx, u⟩ := s
  unfold spec_Check spec_Check_s0 specC
  simp only [Known_eq, some_bind]
  by_cases h1 : no < 2 ∨ 128 < no
  · rw [if_pos h1]
    rcases h1 with h | h
    · rw [decide_eq_true h]; rfl
    · rw [decide_eq_true h]; cases decide (no < 2) <;> rfl
  rw [if_neg h1, decide_eq_false (by omega), decide_eq_false (by omega)]
  by_cases h2 : c < 1 ∨ 6 < c
  · rw [if_pos h2, decide_eq_false (p := 1 ≤ c ∧ c ≤ 6) (by omega)]; rfl
  rw [if_neg h2, decide_eq_true (p := 1 ≤ c ∧ c ≤ 6) (by omega)]
  simp only [cond_false, Bool.not_true]
  by_cases h3 : f < 1 ∨ 3 < f
  · rw [if_pos h3]
    rcases h3 with h | h
    · rw [decide_eq_true h]; rfl
    · rw [decide_eq_true h]; cases decide (f < 1) <;> rfl
  rw [if_neg h3, decide_eq_false (by omega), decide_eq_false (by omega)]
  simp only [cond_false]
  by_cases h4 : mn < 1 ∨ mx < mn ∨ 999 < mx
  · rw [if_pos (by omega)]
    by_cases a : mn < 1
    · rw [decide_eq_true a]; rfl
    rw [decide_eq_false a]
    by_cases b : mx < mn
    · rw [decide_eq_true b]; rfl
    rw [decide_eq_false b, decide_eq_true (by omega)]; rfl
  rw [decide_eq_false (by omega), decide_eq_false (by omega), decide_eq_false (by omega)]
  simp only [cond_false]
  by_cases f1 : f = 1
  · rw [decide_eq_true f1]
    simp only [cond_true, Bool.not_true, cond_false]
    by_cases e : mn = mx
    · rw [decide_eq_true e, if_neg (by omega)]
      by_cases e6 : c = 6
      · rw [decide_eq_true e6, if_pos (by omega)]; rfl
      · rw [decide_eq_false e6, if_neg (by omega)]; rfl
    · rw [decide_eq_false e, if_pos (by omega)]; rfl
  · rw [decide_eq_false f1]
    simp only [cond_false, Bool.not_false, cond_true]
    by_cases f2 : f = 2
    · subst f2
      rw [Most2, some_bind]
      by_cases h : 99 < mx
      · rw [decide_eq_true h, if_pos (by omega)]; rfl
      · rw [decide_eq_false h, if_neg (by omega), if_neg (by omega)]; rfl
    · have f3 : f = 3 := by omega
      subst f3
      rw [Most3, some_bind, decide_eq_false (by omega), if_neg (by omega), if_neg (by omega)]; rfl
theorem specCheck11_eq (s : Spec) : groatref11_Check s = some (specC s) := by
  obtain ⟨no, c, f, mn, mx, u⟩ := s
  unfold groatref11_Check groatref11_Check_s0 specC
  simp only
  by_cases h1 : no < 2 ∨ 128 < no
  · rw [if_pos h1]
    rcases h1 with h | h
    · rw [decide_eq_true h]; rfl
    · rw [decide_eq_true h]; cases decide (no < 2) <;> rfl
  rw [if_neg h1, decide_eq_false (by omega), decide_eq_false (by omega)]
  by_cases h2 : c < 1 ∨ 6 < c
  · rw [if_pos h2]
    rcases h2 with h | h
    · rw [decide_eq_true h]; rfl
    · rw [decide_eq_true h]; cases decide (c < 1) <;> rfl
  rw [if_neg h2, decide_eq_false (by omega), decide_eq_false (by omega)]
  by_cases h3 : f < 1 ∨ 3 < f
  · rw [if_pos h3]
    rcases h3 with h | h
    · rw [decide_eq_true h]; rfl
    · rw [decide_eq_true h]; cases decide (f < 1) <;> rfl
  rw [if_neg h3, decide_eq_false (by omega), decide_eq_false (by omega)]
  simp only [cond_false]
  by_cases f1 : f = 1
  · rw [decide_eq_true f1, decide_eq_false (by omega : ¬ f = 2)]
    simp only [cond_true, cond_false]
    by_cases a : mn < 1
    · rw [decide_eq_true a, if_pos (by omega)]; rfl
    rw [decide_eq_false a]
    by_cases b : mx < mn
    · rw [decide_eq_true b, if_pos (by omega)]; rfl
    rw [decide_eq_false b]
    by_cases d : 999 < mx
    · rw [decide_eq_true d, if_pos (by omega)]; rfl
    rw [decide_eq_false d]
    by_cases e : mn = mx
    · rw [decide_eq_true e, if_neg (by omega)]
      by_cases e6 : c = 6
      · rw [decide_eq_true e6, if_pos (by omega)]; rfl
      · rw [decide_eq_false e6, if_neg (by omega)]; rfl
    · rw [decide_eq_false e, if_pos (by omega)]; rfl
  · rw [decide_eq_false f1]
    simp only [cond_false]
    by_cases f2 : f = 2
    · rw [decide_eq_true f2]
      simp only [cond_true]
      by_cases a : mn < 1
      · rw [decide_eq_true a, if_pos (by omega)]; rfl
      rw [decide_eq_false a]
      by_cases b : mx < mn
      · rw [decide_eq_true b, if_pos (by omega)]; rfl
      rw [decide_eq_false b]
      by_cases d : 99 < mx
      · rw [decide_eq_true d, if_pos (by omega)]; rfl
      rw [decide_eq_false d, if_neg (by omega), if_neg (by omega)]; rfl
    · rw [decide_eq_false f2]
      simp only [cond_false]
      by_cases a : mn < 1
      · rw [decide_eq_true a, if_pos (by omega)]; rfl
      rw [decide_eq_false a]
      by_cases b : mx < mn
      · rw [decide_eq_true b, if_pos (by omega)]; rfl
      rw [decide_eq_false b]
      by_cases d : 999 < mx
      · rw [decide_eq_true d, if_pos (by omega)]; rfl
      rw [decide_eq_false d, if_neg (by omega), if_neg (by omega)]; rfl
def specsC : List Spec → Int → Int → Int × Int
  | [], _, _ => (0, 0)
  | x :: r, i, last => if specC x ≠ 0 then (specC x, i) else if x.1 ≤ last then (11, i) else specsC r (i + 1) x.1
def schemaC (s : Schema) : Int × Int :=
  if ¬ (s.1 = 1 ∨ s.1 = 2) then (1, -1) else if s.2.1 < 0 ∨ 9 < s.2.1 then (7, -1) else specsC s.2.2.1 0 0
def excC (e : Sum (Int × Int) Unit) : Option (Int × Int) := Sum.elim (fun we => some (we.1, we.2)) (fun _ => some (0, 0)) e
theorem exc_specs (l : List Spec) : ∀ (i : Int) (last : Int), excC (if (specsC l i last).1 = 0 then .inr () else .inl (specsC l i last)) = some (specsC l i last) := by
  intro i last
  by_cases h : (specsC l i last).1 = 0
  · rw [if_pos h]
    have : specsC l i last = (0, 0) := by
      induction l generalizing i last with
      | nil => rfl
      | cons x r ih =>
        unfold specsC at h ⊢
        split
        · rename_i h1; rw [if_pos h1] at h; exact absurd h h1
        · rename_i h1
          rw [if_neg h1] at h
          split
          · rename_i h2; rw [if_pos h2] at h; cases h
          · rename_i h2; rw [if_neg h2] at h; exact ih _ _ h
    rw [this]; rfl
  · rw [if_neg h]; rfl
theorem check13_loop (s : Schema) (hl : s.2.2.1.length ≤ maxLen) : groatref13_Check_l0 FUEL 0 0 s = some (if (specsC s.2.2.1 0 0).1 = 0 then .inr () else .inl (specsC s.2.2.1 0 0)) := by
  have h := loopJ spec0 s.2.2.1 hl (fun i x (last : Int) K => if specC x ≠ 0 then some (.inl (specC x, i)) else if x.1 ≤ last then some (.inl (11, i)) else K x.1) (fun _ => some (.inr ())) (fun k i last => groatref13_Check_l0 k last i s)
    (fun k i last h0 h1 => by
      rw [groatref13_Check_l0, groatref13_Check_s1, decide_eq_true h1]
      simp only [cond_true, within_int h0 h1, specCheck11_eq, some_bind]
      by_cases hc : specC (s.2.2.1.getD i.toNat spec0) = 0
      · rw [decide_eq_true hc, if_neg (fun h => h hc)]
        simp only [Bool.not_true, cond_false]
        by_cases hn : (s.2.2.1.getD i.toNat spec0).1 ≤ last
        · rw [decide_eq_true hn, if_pos hn]; rfl
        · rw [decide_eq_false hn, if_neg hn]; rfl
      · rw [decide_eq_false hc, if_pos hc]; rfl)
    (fun k last => by rw [groatref13_Check_l0, groatref13_Check_s1, decide_eq_false (by omega)]; rfl) 0
  rw [h]
  clear h hl
  generalize s.2.2.1 = l
  suffices ∀ (i last : Int), runI (fun i (x : Spec) (last : Int) K => if specC x ≠ 0 then some (Sum.inl (specC x, i)) else if x.1 ≤ last then some (.inl (11, i)) else K x.1) (fun _ => some (.inr ())) l i last = some (if (specsC l i last).1 = 0 then (.inr () : Sum (Int × Int) Unit) else .inl (specsC l i last)) from this 0 0
  induction l with
  | nil => intro i last; rfl
  | cons x r ih =>
    intro i last
    rw [runI, specsC]
    by_cases hc : specC x ≠ 0
    · rw [if_pos hc, if_pos hc, if_neg hc]
    · rw [if_neg hc, if_neg hc]
      by_cases hn : x.1 ≤ last
      · rw [if_pos hn, if_pos hn]; rfl
      · rw [if_neg hn, if_neg hn]; exact ih _ _
theorem Check13_eq (s : Schema) (hl : s.2.2.1.length ≤ maxLen) : groatref13_Check s = some (schemaC s) := by
  unfold groatref13_Check groatref13_Check_s0 schemaC
  have hx := exc_specs s.2.2.1 0 0
  have hloop : (groatref13_Check_l0 FUEL 0 0 s).bind (fun e => Sum.elim (fun (we : Int × Int) => groatref13_Check_s2 we.1 we.2 fun a0 a1 => some (a0, a1)) (fun (we : Unit) => groatref13_Check_s3 fun a0 a1 => some (a0, a1)) e) = some (specsC s.2.2.1 0 0) := by
    rw [check13_loop s hl, some_bind]; exact hx
  dsimp only
  rw [hloop]
  by_cases h1 : s.1 = 1
  · rw [decide_eq_true h1, if_neg (by omega)]
    by_cases h2 : s.2.1 < 0
    · rw [decide_eq_true h2, if_pos (.inl h2)]; rfl
    · rw [decide_eq_false h2]
      by_cases h3 : 9 < s.2.1
      · rw [decide_eq_true h3, if_pos (.inr h3)]; rfl
      · rw [decide_eq_false h3, if_neg (by omega)]; rfl
  · rw [decide_eq_false h1]
    by_cases h0 : s.1 = 2
    · rw [decide_eq_true h0, if_neg (by omega)]
      by_cases h2 : s.2.1 < 0
      · rw [decide_eq_true h2, if_pos (.inl h2)]; rfl
      · rw [decide_eq_false h2]
        by_cases h3 : 9 < s.2.1
        · rw [decide_eq_true h3, if_pos (.inr h3)]; rfl
        · rw [decide_eq_false h3, if_neg (by omega)]; rfl
    · rw [decide_eq_false h0, if_pos (by omega)]; rfl
def findS (l : List Spec) (no : Int) : Option Spec := l.find? fun x => decide (x.1 = no)
def idxS : List Spec → Int → Int → Int
  | [], _, _ => -1
  | x :: r, no, i => if x.1 = no then i else idxS r no (i + 1)
theorem Find_eq (s : Schema) (no : Int) (hl : s.2.2.1.length ≤ maxLen) : schema_Find s no = some (match findS s.2.2.1 no with | some x => (x, true) | none => (spec0, false)) := by
  unfold schema_Find schema_Find_s0 findS
  dsimp only
  have h := loopI spec0 s.2.2.1 hl (fun i x (_ : Unit) K => bif decide (x.1 = no) then some (Sum.inl (true, x)) else K ()) (fun _ => some (.inr spec0)) (fun k i _ => schema_Find_l0 k no s.2.2.1 (s.2.2.1.length : Int) i spec0) (fun k i _ => rfl) ()
  rw [h, ]
  clear h hl
  generalize (0 : Int) = i
  generalize s.2.2.1 = l
  induction l generalizing i with
  | nil => rfl
  | cons x r ih =>
    rw [runI, List.find?_cons]
    cases hx : decide (x.1 = no) with
    | true => rfl
    | false => exact ih (i + 1)
theorem idxS_range (l : List Spec) (no : Int) : ∀ i : Int, 0 ≤ i → (idxS l no i = -1 ∧ findS l no = none) ∨ (i ≤ idxS l no i ∧ idxS l no i < i + l.length ∧ ∃ x, findS l no = some x ∧ l.getD (idxS l no i - i).toNat spec0 = x) := by
  induction l with
  | nil => intro i hi; left; exact ⟨rfl, rfl⟩
  | cons x r ih =>
    intro i hi
    unfold idxS findS
    by_cases h : x.1 = no
    · right
      rw [if_pos h, List.find?_cons, decide_eq_true h]
      refine ⟨by omega, by simp; omega, x, rfl, by simp⟩
    · rw [if_neg h, List.find?_cons, decide_eq_false h]
      rcases ih (i + 1) (by omega) with ⟨h1, h2⟩ | ⟨h1, h2, y, h3, h4⟩
      · left; exact ⟨h1, h2⟩
      · right
        refine ⟨by omega, by simp; omega, y, h3, ?_⟩
        have : (idxS r no (i + 1) - i).toNat = (idxS r no (i + 1) - (i + 1)).toNat + 1 := by omega
        rw [this]
        simpa using h4
theorem Find13_eq (s : Schema) (no : Int) (hl : s.2.2.1.length ≤ maxLen) : groatref13_Find s no = some (idxS s.2.2.1 no 0) := by
  unfold groatref13_Find groatref13_Find_s0
  dsimp only
  have h := loopI spec0 s.2.2.1 hl (fun i x (_ : Unit) K => bif decide (x.1 = no) then some (Sum.inl i) else K ()) (fun _ => some (.inr ())) (fun k i _ => groatref13_Find_l0 k no i s) (fun k i _ => rfl) ()
  rw [h]
  clear h hl
  generalize (0 : Int) = i
  generalize s.2.2.1 = l
  induction l generalizing i with
  | nil => rfl
  | cons x r ih =>
    rw [runI, idxS]
    by_cases hx : x.1 = no
    · rw [decide_eq_true hx, if_pos hx]; rfl
    · rw [decide_eq_false hx, if_neg hx]; exact ih (i + 1)
theorem schema_ext {a b : Schema} : a = b ↔ a.1 = b.1 ∧ a.2.1 = b.2.1 ∧ a.2.2.1 = b.2.2.1 := by
  obtain ⟨x, y, z, u⟩ := a
  obtain ⟨x', y', z', u'⟩ := b
  simp
instance : DecidableEq Schema := fun a b => decidable_of_iff _ schema_ext.symm
def OkSpecs (l : List Spec) (last : Int) : Prop := (∀ x ∈ l, specC x = 0) ∧ (l.Pairwise fun x y => x.1 < y.1) ∧ ∀ x ∈ l, last < x.1
theorem specsC_ok (l : List Spec) : ∀ (i last : Int), (specsC l i last).1 = 0 ↔ OkSpecs l last := by
  induction l with
  | nil => intro i last; simp [specsC, OkSpecs]
  | cons x r ih =>
    intro i last
    unfold specsC
    by_cases hc : specC x = 0
    · rw [if_neg (fun h => h hc)]
      by_cases hn : x.1 ≤ last
      · rw [if_pos hn]
        constructor
        · intro h; cases h
        · intro ⟨_, _, h3⟩; have := h3 x (by simp); omega
      · rw [if_neg hn, ih]
        constructor
        · intro ⟨h1, h2, h3⟩
          refine ⟨fun y hy => ?_, List.pairwise_cons.2 ⟨h3, h2⟩, fun y hy => ?_⟩
          · rcases List.mem_cons.1 hy with rfl | hy
            · exact hc
            · exact h1 y hy
          · rcases List.mem_cons.1 hy with rfl | hy
            · omega
            · have := h3 y hy; omega
        · intro ⟨h1, h2, h3⟩
          obtain ⟨h4, h5⟩ := List.pairwise_cons.1 h2
          exact ⟨fun y hy => h1 y (by simp [hy]), h5, h4⟩
    · rw [if_pos hc]
      constructor
      · intro h; exact absurd h hc
      · intro ⟨h1, _, _⟩; exact absurd (h1 x (by simp)) hc
def Okay (s : Schema) : Prop := (s.1 = 1 ∨ s.1 = 2) ∧ 0 ≤ s.2.1 ∧ s.2.1 ≤ 9 ∧ OkSpecs s.2.2.1 0
theorem schemaC_ok (s : Schema) : (schemaC s).1 = 0 ↔ Okay s := by
  unfold schemaC Okay
  by_cases h1 : s.1 = 1 ∨ s.1 = 2
  · rw [if_neg (fun h => h h1)]
    by_cases h2 : s.2.1 < 0 ∨ 9 < s.2.1
    · rw [if_pos h2]
      constructor
      · intro h; cases h
      · intro ⟨_, a, b, _⟩; omega
    · rw [if_neg h2, specsC_ok]
      constructor
      · intro h; exact ⟨h1, by omega, by omega, h⟩
      · intro ⟨_, _, _, h⟩; exact h
  · rw [if_pos h1]
    constructor
    · intro h; cases h
    · intro ⟨a, _⟩; exact absurd a h1
theorem OkSpecs.filter {l : List Spec} {last : Int} (h : OkSpecs l last) (p : Spec → Bool) : OkSpecs (l.filter p) last :=
  ⟨fun x hx => h.1 x (List.mem_filter.1 hx).1, h.2.1.filter p, fun x hx => h.2.2 x (List.mem_filter.1 hx).1⟩
theorem Right13_eq (s : Schema) (hl : s.2.2.1.length ≤ maxLen) : groatref13_Right s = some (decide ((schemaC s).1 = 0)) := by
  unfold groatref13_Right groatref13_Right_s0
  rw [Check13_eq s hl, some_bind]
end Groat
set_option linter.unusedVariables false
set_option linter.unusedSimpArgs false
namespace Groat
open Go Go.Ref
abbrev Pair := ByteArray × ByteArray × Unit
def pair0 : Pair := (bs [], bs [], ())
instance memDec (a : ByteArray) (l : List ByteArray) : Decidable (a ∈ l) := decidable_of_iff (l.any (fun x => decide (a = x)) = true) (by
  rw [List.any_eq_true]
  exact ⟨fun ⟨x, hx, h⟩ => of_decide_eq_true h ▸ hx, fun h => ⟨a, h, decide_eq_true rfl⟩⟩)
def exI (r : Int) : Sum Int Unit := if r = -1 then .inr () else .inl r
theorem exI_nat (j : Nat) : exI (j : Int) = .inl (j : Int) := if_neg (by omega)
def seenM {K : Type} (l : List K) : List (K × Bool) := l.map fun k => (k, true)
theorem mget_seen {K : Type} [DecidableEq K] (eq : K → K → Bool) (heq : ∀ x y, eq x y = decide (x = y)) (k : K) : ∀ l : List K, mget eq false (seenM l) k = true ↔ k ∈ l
  | [] => by simp [seenM, mget]
  | x :: l => by
    simp only [seenM, List.map_cons, mget, heq]
    by_cases h : k = x
    · rw [decide_eq_true h, cond_true]; exact ⟨fun _ => by rw [h]; exact List.mem_cons_self, fun _ => rfl⟩
    · rw [decide_eq_false h, cond_false]
      have := mget_seen eq heq k l
      simp only [seenM] at this
      rw [this]
      exact ⟨fun h' => List.mem_cons_of_mem _ h', fun h' => (List.mem_cons.1 h').resolve_left h⟩
theorem mhas_seen {K : Type} [DecidableEq K] (eq : K → K → Bool) (heq : ∀ x y, eq x y = decide (x = y)) (k : K) : ∀ l : List K, mhas eq (seenM l) k = true ↔ k ∈ l
  | [] => by simp [seenM, mhas]
  | x :: l => by
    simp only [seenM, List.map_cons, mhas, heq]
    by_cases h : k = x
    · rw [decide_eq_true h, cond_true]; exact ⟨fun _ => by rw [h]; exact List.mem_cons_self, fun _ => rfl⟩
    · rw [decide_eq_false h, cond_false]
      have := mhas_seen eq heq k l
      simp only [seenM] at this
      rw [this]
      exact ⟨fun h' => List.mem_cons_of_mem _ h', fun h' => (List.mem_cons.1 h').resolve_left h⟩
theorem not_true' {b : Bool} {p : Prop} (h : b = true ↔ p) (hp : ¬ p) : b = false := by cases b with
  | false => rfl
  | true => exact absurd (h.1 rfl) hp
theorem seenM_append {K : Type} (l : List K) (k : K) : seenM l ++ [(k, true)] = seenM (l ++ [k]) := by simp [seenM]
def dupP : List ByteArray → List Pair → Int → Option Int
  | _, [], _ => none
  | seen, p :: r, i => if p.1 ∈ seen then some i else dupP (seen ++ [p.1]) r (i + 1)
def tableC (l : List Pair) : Int × Int := if 256 < l.length then (5, 256) else match dupP [] l 0 with
  | some i => (10, i)
  | none => (0, 0)
def dupR (o : Option Int) : Option (Sum (Int × Int) Unit) := some (match o with
  | some i => .inl (10, i)
  | none => .inr ())
theorem codesCheck_run (l : List Pair) : ∀ (i : Int) (seen : List ByteArray),
    runI (fun i (x : Pair) (s : List (ByteArray × Bool)) K => bif mget (eqK .str) false s x.1 then some (Sum.inl ((10 : Int), i)) else bif mhas (eqK .str) s x.1 then none else K (s ++ [(x.1, true)])) (fun _ => some (Sum.inr ())) l i (seenM seen) = dupR (dupP seen l i) := by
  induction l with
  | nil => intro i seen; rfl
  | cons p r ih =>
    intro i seen
    simp only [runI, dupP]
    have e1 := mget_seen (eqK .str) (fun _ _ => rfl) p.1 seen
    have e2 := mhas_seen (eqK .str) (fun _ _ => rfl) p.1 seen
    by_cases h : p.1 ∈ seen
    · rw [e1.2 h, if_pos h]; rfl
    · rw [not_true' e1 h, not_true' e2 h, if_neg h, cond_false, cond_false, seenM_append]
      exact ih (i + 1) (seen ++ [p.1])
theorem codesCheck_eq (l : List Pair) (h : l.length ≤ maxLen) : codes_Check l = some (tableC l) := by
  unfold codes_Check codes_Check_s0 tableC
  dsimp only
  by_cases hl : 256 < l.length
  · rw [decide_eq_true (by omega), cond_true, if_pos hl]
  · rw [decide_eq_false (by omega), cond_false, if_neg hl]
    have := loopI pair0 l h (fun i (x : Pair) (s : List (ByteArray × Bool)) K => bif mget (eqK .str) false s x.1 then some (Sum.inl ((10 : Int), i)) else bif mhas (eqK .str) s x.1 then none else K (s ++ [(x.1, true)])) (fun _ => some (Sum.inr ()))
      (fun k i s => codes_Check_l0 k l (l.length : Int) i s) (fun k i s => rfl) []
    rw [this]
    have h2 := codesCheck_run l 0 []
    rw [show seenM ([] : List ByteArray) = [] from rfl] at h2
    rw [h2]
    unfold dupR
    cases dupP [] l 0 <;> rfl
def applyP (l : List Pair) (f : ByteArray) : ByteArray × Bool := match l.find? fun p => decide (p.1 = f) with
  | some p => (p.2.1, true)
  | none => (bs [], false)
theorem codesApply_run (f : ByteArray) (l : List Pair) : ∀ (i : Int), runI (fun i (x : Pair) (s : Unit) K => bif decide (x.1 = f) then some (Sum.inl (x.2.1, true)) else K s) (fun _ => some (Sum.inr ())) l i () = some (match l.find? fun p => decide (p.1 = f) with
    | some p => .inl (p.2.1, true)
    | none => .inr ()) := by
  induction l with
  | nil => intro i; rfl
  | cons p r ih =>
    intro i
    simp only [runI, List.find?_cons]
    by_cases h : p.1 = f
    · rw [decide_eq_true h]; rfl
    · rw [decide_eq_false h, cond_false]; exact ih (i + 1)
theorem codesApply_eq (l : List Pair) (f : ByteArray) (h : l.length ≤ maxLen) : codes_Apply l f = some (applyP l f) := by
  unfold codes_Apply codes_Apply_s0 applyP
  dsimp only
  have := loopI pair0 l h (fun i (x : Pair) (s : Unit) K => bif decide (x.1 = f) then some (Sum.inl (x.2.1, true)) else K s) (fun _ => some (Sum.inr ()))
    (fun k i s => codes_Apply_l0 k f l (l.length : Int) i) (fun k i s => rfl) ()
  rw [this, codesApply_run]
  cases l.find? fun p => decide (p.1 = f) <;> rfl
def turnP (l : List Pair) : List Pair := l.map fun p => (p.2.1, p.1, ())
theorem turnP_len (l : List Pair) : (turnP l).length = l.length := by simp [turnP]
end Groat
set_option linter.unusedVariables false
set_option linter.unusedSimpArgs false
namespace Groat
open Go Go.Ref
def isC (c b : Int) : Bool :=
  if c = 1 then decide (48 ≤ b ∧ b ≤ 57)
  else if c = 2 then decide (65 ≤ b ∧ b ≤ 90 ∨ 97 ≤ b ∧ b ≤ 122)
  else if c = 3 then decide (48 ≤ b ∧ b ≤ 57 ∨ 65 ≤ b ∧ b ≤ 90 ∨ 97 ≤ b ∧ b ≤ 122)
  else if c = 4 then decide (32 ≤ b ∧ b ≤ 126)
  else decide (c = 5 ∨ c = 6)
def setsV (c : Int) : Int := if c = 1 then 1 else if c = 2 then 2 else if c = 3 then 3 else if c = 4 then 7 else if c = 5 then 15 else if c = 6 then 15 else 0
theorem is_fin : ∀ c : Fin 7, ∀ b : Fin 256, groatref04_Is (c.1 : Int) (b.1 : Int) = some (isC (c.1 : Int) (b.1 : Int)) := by decide +kernel
theorem of_fin : ∀ c : Fin 7, ∀ b : Fin 256, (class_of (b.1 : Int)).map (fun r => decide (ibits .and .i64 (setsV (c.1 : Int)) r = 0)) = some (!isC (c.1 : Int) (b.1 : Int)) := by decide +kernel
theorem cls_cases (c : Int) : (∃ k : Fin 7, c = (k.1 : Int)) ∨ (c ≠ 1 ∧ c ≠ 2 ∧ c ≠ 3 ∧ c ≠ 4 ∧ c ≠ 5 ∧ c ≠ 6) := by
  by_cases h : 0 ≤ c ∧ c ≤ 6
  · exact .inl ⟨⟨c.toNat, by omega⟩, by simp; omega⟩
  · exact .inr ⟨by omega, by omega, by omega, by omega, by omega, by omega⟩
theorem byte_fin {b : Int} (h : isByte b) : ∃ k : Fin 256, b = (k.1 : Int) := by
  unfold isByte at h
  exact ⟨⟨b.toNat, by omega⟩, by simp; omega⟩
theorem Is04_eq (c : Int) {b : Int} (hb : isByte b) : groatref04_Is c b = some (isC c b) := by
  obtain ⟨b, rfl⟩ := byte_fin hb
  rcases cls_cases c with ⟨k, rfl⟩ | ⟨h1, h2, h3, h4, h5, h6⟩
  · exact is_fin k b
  · unfold groatref04_Is groatref04_Is_s0 isC
    simp only [h1, h2, h3, h4, h5, h6, decide_false, cond_false, if_false, or_self, Bool.cond_self]
theorem ofSets_eq (c : Int) {b : Int} (hb : isByte b) : ∃ r, class_of b = some r ∧ decide (ibits .and .i64 (setsV c) r = 0) = !isC c b := by
  obtain ⟨b, rfl⟩ := byte_fin hb
  rcases cls_cases c with ⟨k, rfl⟩ | ⟨h1, h2, h3, h4, h5, h6⟩
  · have := of_fin k b
    cases hc : class_of (b.1 : Int) with
    | none => rw [hc] at this; cases this
    | some r => rw [hc] at this; exact ⟨r, rfl, by simpa using this⟩
  · have := of_fin 0 b
    cases hc : class_of (b.1 : Int) with
    | none => rw [hc] at this; cases this
    | some r =>
      rw [hc] at this
      refine ⟨r, rfl, ?_⟩
      have e1 : setsV c = setsV ((0 : Fin 7).1 : Int) := by unfold setsV; simp [h1, h2, h3, h4, h5, h6]
      have e2 : isC c (b.1 : Int) = isC ((0 : Fin 7).1 : Int) (b.1 : Int) := by unfold isC; simp [h1, h2, h3, h4, h5, h6]
      rw [e1, e2]
      simpa using this
def firstC (c : Int) : List Int → Int → Int
  | [], _ => -1
  | b :: r, i => if isC c b = true then firstC c r (i + 1) else i
theorem firstC_none (c : Int) : ∀ (l : List Int) (i : Int), 0 ≤ i → (0 ≤ firstC c l i ↔ ¬ l.all (isC c) = true)
  | [], i, _ => by simp [firstC]
  | b :: r, i, hi => by
    simp only [firstC, List.all_cons]
    cases h : isC c b with
    | true => rw [if_pos rfl, firstC_none c r (i + 1) (by omega), Bool.true_and]
    | false => simp [hi]
theorem first_loop (c : Int) (s : ByteArray) (hs : s.size ≤ 9223372036854775807) : ∀ (n j k : Nat), j + n = s.size → n < k → class_First_l0 k s (setsV c) (j : Int) = some (exI (firstC c ((bl s).drop j) j))
  | n, j, 0, _, hk => by omega
  | 0, j, k + 1, hj, hk => by
    unfold class_First_l0 class_First_s1
    rw [decide_eq_false (by omega), List.drop_eq_nil_of_le (by rw [bl_length]; omega)]; rfl
  | n + 1, j, k + 1, hj, hk => by
    have hlt : j < s.size := by omega
    have hl : j < (bl s).length := by rw [bl_length]; exact hlt
    have hb : isByte ((bl s)[j]) := bl_byte (List.getElem_mem hl)
    have hg : (bl s).getD j 0 = (bl s)[j] := by rw [List.getD_eq_getElem?_getD, List.getElem?_eq_getElem hl]; rfl
    unfold class_First_l0 class_First_s1
    rw [decide_eq_true (by omega), cond_true, within_nat_lt hlt, Int.toNat_natCast, bl_byteAt, hg, List.drop_eq_getElem_cons hl]
    obtain ⟨r, h1, h2⟩ := ofSets_eq c hb
    rw [h1, Option.bind_some, h2]
    simp only [firstC]
    cases h : isC c (bl s)[j] with
    | true => rw [if_pos rfl, Bool.not_true, cond_false, i64_succ (by omega), first_loop c s hs n (j + 1) k (by omega) (by omega)]; rfl
    | false => rw [if_neg (by simp), Bool.not_false, cond_true, exI_nat]
theorem First_eq (c : Int) (s : ByteArray) (h : s.size ≤ maxLen) : class_First c s = some (firstC c (bl s) 0) := by
  rw [maxLen_eq] at h
  unfold class_First class_First_s0
  dsimp only
  rw [sets_eq, Option.bind_some]
  have := first_loop c s h s.size 0 FUEL (by omega) (by rw [fuel_eq]; omega)
  rw [show ((0 : Nat) : Int) = (0 : Int) from rfl, List.drop_zero] at this
  rw [show (if c = 1 then 1 else if c = 2 then 2 else if c = 3 then 3 else if c = 4 then 7 else if c = 5 then 15 else if c = 6 then 15 else 0 : Int) = setsV c from rfl, this, Option.bind_some]
  unfold exI
  by_cases h : firstC c (bl s) 0 = -1
  · rw [if_pos h, h]; rfl
  · rw [if_neg h]; rfl
theorem first04_loop (c : Int) (s : ByteArray) (hs : s.size ≤ 9223372036854775807) : ∀ (n j k : Nat), j + n = s.size → n < k → groatref04_First_l0 k c s (j : Int) = some (exI (firstC c ((bl s).drop j) j))
  | n, j, 0, _, hk => by omega
  | 0, j, k + 1, hj, hk => by
    unfold groatref04_First_l0 groatref04_First_s1
    rw [decide_eq_false (by omega), List.drop_eq_nil_of_le (by rw [bl_length]; omega)]; rfl
  | n + 1, j, k + 1, hj, hk => by
    have hlt : j < s.size := by omega
    have hl : j < (bl s).length := by rw [bl_length]; exact hlt
    have hb : isByte ((bl s)[j]) := bl_byte (List.getElem_mem hl)
    have hg : (bl s).getD j 0 = (bl s)[j] := by rw [List.getD_eq_getElem?_getD, List.getElem?_eq_getElem hl]; rfl
    unfold groatref04_First_l0 groatref04_First_s1
    rw [decide_eq_true (by omega), cond_true, within_nat_lt hlt, Int.toNat_natCast, bl_byteAt, hg, List.drop_eq_getElem_cons hl, Is04_eq c hb, Option.bind_some]
    simp only [firstC]
    cases h : isC c (bl s)[j] with
    | true => rw [if_pos rfl, Bool.not_true, cond_false, i64_succ (by omega), first04_loop c s hs n (j + 1) k (by omega) (by omega)]; rfl
    | false => rw [if_neg (by simp), Bool.not_false, cond_true, exI_nat]
theorem First04_eq (c : Int) (s : ByteArray) (h : s.size ≤ maxLen) : groatref04_First c s = some (firstC c (bl s) 0) := by
  rw [maxLen_eq] at h
  unfold groatref04_First groatref04_First_s0
  dsimp only
  have := first04_loop c s h s.size 0 FUEL (by omega) (by rw [fuel_eq]; omega)
  rw [show ((0 : Nat) : Int) = (0 : Int) from rfl, List.drop_zero] at this
  rw [this, Option.bind_some]
  unfold exI
  by_cases h : firstC c (bl s) 0 = -1
  · rw [if_pos h, h]; rfl
  · rw [if_neg h]; rfl
def widerC (a b : Int) : Bool := decide (1 ≤ a ∧ a ≤ 6 ∧ 1 ≤ b ∧ b ≤ 6) && decide (ibits .andNot .i64 (setsV b) (setsV a) = 0)
theorem Wider_eq (a b : Int) : class_Wider a b = some (widerC a b) := by
  unfold class_Wider class_Wider_s0 widerC
  rw [Known_eq, Option.bind_some]
  by_cases ha : 1 ≤ a ∧ a ≤ 6
  · rw [decide_eq_true ha, cond_true, Known_eq, Option.bind_some]
    by_cases hb : 1 ≤ b ∧ b ≤ 6
    · rw [decide_eq_true hb, cond_true, sets_eq, Option.bind_some, sets_eq, Option.bind_some, decide_eq_true (show 1 ≤ a ∧ a ≤ 6 ∧ 1 ≤ b ∧ b ≤ 6 from ⟨ha.1, ha.2, hb.1, hb.2⟩), Bool.true_and]
      rfl
    · rw [decide_eq_false hb, cond_false, decide_eq_false (fun h => hb h.2.2)]; rfl
  · rw [decide_eq_false ha, cond_false, decide_eq_false (fun h => ha ⟨h.1, h.2.1⟩)]; rfl
theorem wider_fin : ∀ a b : Fin 7, groatref04_Wider (a.1 : Int) (b.1 : Int) = some (widerC (a.1 : Int) (b.1 : Int)) := by decide +kernel
theorem in_fin {c : Int} (h : 1 ≤ c ∧ c ≤ 6) : ∃ k : Fin 7, c = (k.1 : Int) := ⟨⟨c.toNat, by omega⟩, by simp; omega⟩
theorem Wider04_eq (a b : Int) : groatref04_Wider a b = some (widerC a b) := by
  by_cases h : (1 ≤ a ∧ a ≤ 6) ∧ (1 ≤ b ∧ b ≤ 6)
  · obtain ⟨k, rfl⟩ := in_fin h.1
    obtain ⟨m, rfl⟩ := in_fin h.2
    exact wider_fin k m
  · unfold groatref04_Wider groatref04_Wider_s0 widerC
    rw [show decide (1 ≤ a ∧ a ≤ 6 ∧ 1 ≤ b ∧ b ≤ 6) = false from decide_eq_false (fun h' => h ⟨⟨h'.1, h'.2.1⟩, h'.2.2⟩), Bool.false_and]
    by_cases h1 : a < 1
    · rw [decide_eq_true h1]; rfl
    · by_cases h2 : (6 : Int) < a
      · rw [decide_eq_false h1, decide_eq_true h2]; rfl
      · by_cases h3 : b < 1
        · rw [decide_eq_false h1, decide_eq_false h2, decide_eq_true h3]; rfl
        · have h4 : (6 : Int) < b := by omega
          rw [decide_eq_false h1, decide_eq_false h2, decide_eq_false h3, decide_eq_true h4]; rfl
end Groat
set_option linter.unusedVariables false
set_option linter.unusedSimpArgs false
namespace Groat
open Go Go.Ref
theorem byteAt_byte (s : ByteArray) (i : Nat) : isByte (byteAt s i) := by
  rw [bl_byteAt]
  exact getD_byte (fun x hx => bl_byte hx) i
theorem first_fin : ∀ b : Fin 256, tag_first (b.1 : Int) = some (decide (groatref08_First (b.1 : Int) ≠ some 0)) := by decide +kernel
theorem first2_fin : ∀ b : Fin 256, groatref08_First (b.1 : Int) = some 0 ∨ (groatref08_First (b.1 : Int) = some 1 ∧ decide (ibits .and .i64 (b.1 : Int) 31 = 31) = false) ∨ (groatref08_First (b.1 : Int) = some 2 ∧ decide (ibits .and .i64 (b.1 : Int) 31 = 31) = true) := by decide +kernel
theorem and255 (x y : Nat) (hx : x < 256) (hy : y < 256) : ibits .and .i64 (((x : Int) * 256) + (y : Int)) 255 = (y : Int) := by
  have : ((x : Int) * 256 + (y : Int)) = ((x * 256 + y : Nat) : Int) := by omega
  rw [this, show (255 : Int) = ((255 : Nat) : Int) from rfl, and_i64 (by omega) (by omega)]
  congr 1
  rw [show (255 : Nat) = 2 ^ 8 - 1 from rfl, Nat.and_two_pow_sub_one_eq_mod]
  omega
theorem shr8 (x y : Nat) (hx : x < 256) (hy : y < 256) : Int.fdiv ((x : Int) * 256 + (y : Int)) (2 ^ min ((8 : Int)).toNat 64) = (x : Int) := by
  have : ((x : Int) * 256 + (y : Int)) = ((x * 256 + y : Nat) : Int) := by omega
  rw [this, show (8 : Int) = ((8 : Nat) : Int) from rfl, fdiv_nat _ 8 (by omega)]
  congr 1
  omega
theorem right_two (x : Fin 256) (hx : groatref08_First (x.1 : Int) = some 2) (y : Fin 256) : tag_Right ((x.1 : Int) * 256 + (y.1 : Int)) = some (decide (1 ≤ (y.1 : Int) ∧ (y.1 : Int) ≤ 127)) := by
  have hx0 : x.1 ≠ 0 := fun e => by
    have : x = 0 := Fin.ext e
    subst this
    revert hx
    decide +kernel
  have h31 : decide (ibits .and .i64 (x.1 : Int) 31 = 31) = true := by
    rcases first2_fin x with h | ⟨h, _⟩ | ⟨_, h⟩
    · rw [h] at hx; cases hx
    · rw [h] at hx; cases hx
    · exact h
  have hf : tag_first (x.1 : Int) = some true := by rw [first_fin x, hx]; rfl
  unfold tag_Right tag_Right_s0
  rw [shr8 x.1 y.1 x.2 y.2, and255 x.1 y.1 x.2 y.2, decide_eq_false (by have := x.2; have := y.2; omega), cond_false, decide_eq_true (by have := x.2; have := y.2; omega), cond_true, hf, Option.bind_some, cond_true, h31, cond_true]
  by_cases h1 : (1 : Int) ≤ (y.1 : Int)
  · rw [decide_eq_true h1, cond_true]
    congr 1
    exact decide_eq_decide.2 ⟨fun h => ⟨h1, h⟩, fun h => h.2⟩
  · rw [decide_eq_false h1, cond_false]
    congr 1
    exact (decide_eq_false fun h => h1 h.1).symm
theorem tagGet_eq (s : ByteArray) (hs : s.size ≤ 9223372036854775000) (a : Int) : tag_Get s a = groatref08_Get s a := by
  unfold tag_Get tag_Get_s0 groatref08_Get groatref08_Get_s0
  by_cases h1 : a < 0
  · rw [decide_eq_true h1]; rfl
  rw [decide_eq_false h1, cond_false, cond_false]
  by_cases h2 : (s.size : Int) < a
  · rw [decide_eq_true h2]; rfl
  rw [decide_eq_false h2, cond_false, cond_false]
  by_cases h3 : a = (s.size : Int)
  · rw [decide_eq_true h3]; rfl
  have wa : ∀ {R : Type} (x : Option R), within a s.size x = x := fun x => within_int (by omega) (by omega)
  rw [decide_eq_false h3, cond_false, cond_false]
  simp only [wa]
  obtain ⟨x, hx⟩ := byte_fin (byteAt_byte s a.toNat)
  obtain ⟨y, hy⟩ := byte_fin (byteAt_byte s (IntKind.i64.wrap (a + 1)).toNat)
  have hx2 := x.2
  have hy2 := y.2
  have ob := or_bytes (byteAt_byte s a.toNat) (byteAt_byte s (IntKind.i64.wrap (a + 1)).toNat)
  rw [hx, hy] at ob
  have w1 : IntKind.i64.wrap (a + 1) = a + 1 := i64_id (by omega) (by omega)
  have w2 : IntKind.i64.wrap (x.1 : Int) = (x.1 : Int) := i64_id (by omega) (by omega)
  have w3 : IntKind.i64.wrap (y.1 : Int) = (y.1 : Int) := i64_id (by omega) (by omega)
  have w4 : IntKind.i64.wrap ((s.size : Int) - a) = (s.size : Int) - a := i64_id (by omega) (by omega)
  rw [hx, hy, w2, first_fin x, Option.bind_some]
  rw [w2] at ob
  rcases first2_fin x with h | ⟨h, h31⟩ | ⟨h, h31⟩
  · rw [h]; rfl
  · rw [h, Option.bind_some, h31]; rfl
  · rw [h, Option.bind_some, h31, ob, right_two x h y, Option.bind_some, w1, w4, w3]
    by_cases h4 : a + 1 = (s.size : Int)
    · rw [decide_eq_true h4, decide_eq_true (by omega : (s.size : Int) - a < 2)]; rfl
    · have w5 : IntKind.i64.wrap (256 * (x.1 : Int)) = 256 * (x.1 : Int) := i64_id (by omega) (by omega)
      have w6 : IntKind.i64.wrap (256 * (x.1 : Int) + (y.1 : Int)) = (x.1 : Int) * 256 + (y.1 : Int) := by rw [i64_id (by omega) (by omega)]; omega
      rw [decide_eq_false h4, decide_eq_false (by omega : ¬ (s.size : Int) - a < 2), w5, w6]
      have wb : ∀ {R : Type} (x : Option R), within (a + 1) s.size x = x := fun x => within_int (by omega) (by omega)
      simp only [wb]
      by_cases h5 : (y.1 : Int) = 0
      · rw [decide_eq_true h5, decide_eq_false (by omega : ¬ (1 ≤ (y.1 : Int) ∧ (y.1 : Int) ≤ 127))]; rfl
      · by_cases h6 : (127 : Int) < (y.1 : Int)
        · rw [decide_eq_false h5, decide_eq_true h6, decide_eq_false (by omega : ¬ (1 ≤ (y.1 : Int) ∧ (y.1 : Int) ≤ 127))]; rfl
        · rw [decide_eq_false h5, decide_eq_false h6, decide_eq_true (by omega : 1 ≤ (y.1 : Int) ∧ (y.1 : Int) ≤ 127)]; rfl
end Groat
set_option linter.unusedVariables false
set_option linter.unusedSimpArgs false
namespace Groat
open Go Go.Ref
theorem Size_eq (n : Int) : ber_Size n = some (if n < 0 ∨ 65535 < n then 0 else if 255 < n then 3 else if 127 < n then 2 else 1) := by
  unfold ber_Size ber_Size_s0
  by_cases h1 : n < 0
  · rw [decide_eq_true h1, if_pos (.inl h1)]; rfl
  by_cases h2 : (65535 : Int) < n
  · rw [decide_eq_false h1, decide_eq_true h2, if_pos (.inr h2)]; rfl
  rw [decide_eq_false h1, decide_eq_false h2, if_neg (by omega)]
  by_cases h3 : (255 : Int) < n
  · rw [decide_eq_true h3, if_pos h3]; rfl
  by_cases h4 : (127 : Int) < n
  · rw [decide_eq_false h3, decide_eq_true h4, if_neg h3, if_pos h4]; rfl
  · rw [decide_eq_false h3, decide_eq_false h4, if_neg h3, if_neg h4]; rfl
theorem fuel3 : ∃ k, FUEL = k + 1 + 1 + 1 := ⟨FUEL - 3, by rw [fuel_eq]⟩
theorem or_zero {y : Int} (hy : isByte y) : ibits .or .i64 (IntKind.i64.wrap (0 * 2 ^ min (8 : Int).toNat 64)) (IntKind.i64.wrap y) = y := by
  obtain ⟨k, rfl⟩ := byte_fin hy
  clear hy
  revert k
  decide +kernel
theorem berGet_eq (s : ByteArray) (hs : s.size ≤ 9223372036854775000) (a : Int) : ber_Get s a = groatref09_Get s a := by
  unfold ber_Get ber_Get_s0 groatref09_Get groatref09_Get_s0
  by_cases h1 : a < 0
  · rw [decide_eq_true h1]; rfl
  rw [decide_eq_false h1, cond_false, cond_false]
  by_cases h2 : (s.size : Int) < a
  · rw [decide_eq_true h2]; rfl
  rw [decide_eq_false h2, cond_false, cond_false]
  by_cases h3 : a = (s.size : Int)
  · rw [decide_eq_true h3]; rfl
  have wa : ∀ {R : Type} (x : Option R), within a s.size x = x := fun x => within_int (by omega) (by omega)
  rw [decide_eq_false h3, cond_false, cond_false]
  simp only [wa]
  obtain ⟨x, hx⟩ := byte_fin (byteAt_byte s a.toNat)
  have hx2 := x.2
  have w1 : IntKind.i64.wrap (a + 1) = a + 1 := i64_id (by omega) (by omega)
  have w2 : IntKind.i64.wrap (x.1 : Int) = (x.1 : Int) := i64_id (by omega) (by omega)
  have w4 : IntKind.i64.wrap ((s.size : Int) - a) = (s.size : Int) - a := i64_id (by omega) (by omega)
  have w5 : IntKind.i64.wrap ((s.size : Int) - (a + 1)) = (s.size : Int) - (a + 1) := i64_id (by omega) (by omega)
  have w6 : IntKind.i64.wrap ((x.1 : Int) - 128) = (x.1 : Int) - 128 := i64_id (by omega) (by omega)
  have w7 : IntKind.i64.wrap ((x.1 : Int) - 127) = (x.1 : Int) - 127 := i64_id (by omega) (by omega)
  obtain ⟨k, hk⟩ := fuel3
  simp only [hx, w2, w1, w4, w5, w6, w7, hk]
  by_cases h4 : (127 : Int) < (x.1 : Int)
  · rw [decide_eq_true h4, cond_true, decide_eq_false (by omega : ¬ (x.1 : Int) < 128), cond_false]
    by_cases h5 : (x.1 : Int) = 129
    · have wn : IntKind.i64.wrap (0 + 1) = 1 := rfl
      simp only [h5]
      by_cases h6 : (s.size : Int) - a < 2
      · have e1 : ((s.size : Int) - (a + 1) < 129 - 128) := by omega
        have e2 : ((s.size : Int) - a < 129 - 127) := by omega
        rw [decide_eq_true e1, decide_eq_true e2]; rfl
      · have e1 : ¬ ((s.size : Int) - (a + 1) < 129 - 128) := by omega
        have e2 : ¬ ((s.size : Int) - a < 129 - 127) := by omega
        have wb : ∀ {R : Type} (x : Option R), within (a + 1) s.size x = x := fun x => within_int (by omega) (by omega)
        have wc : ∀ {R : Type} (x : Option R), within (IntKind.i64.wrap (a + 1 + 0)) s.size x = x := fun x => by rw [Int.add_zero, w1]; exact wb x
        obtain ⟨y, hy⟩ := byte_fin (byteAt_byte s (a + 1).toNat)
        have hy2 := y.2
        have w3 : IntKind.i64.wrap (y.1 : Int) = (y.1 : Int) := i64_id (by omega) (by omega)
        have oz := or_zero (y := (y.1 : Int)) ⟨by omega, by omega⟩
        rw [w3] at oz
        rw [decide_eq_false e1, decide_eq_false e2]
        have l1 : ber_Get_l0 (k + 1 + 1 + 1) s (a + 1) 0 (129 - 128) (129 - 128) 0 = some (a + 1, (y.1 : Int), 129 - 128) := by
          simp only [ber_Get_l0, ber_Get_s1]
          rw [show decide ((0 : Int) < 129 - 128) = true from rfl, cond_true, wc, wn, show decide ((1 : Int) < 129 - 128) = false from rfl, cond_false, Int.add_zero, w1, hy, w3, oz]
        simp only [wb, hy, w3]
        show (ber_Get_l0 (k + 1 + 1 + 1) s (a + 1) 0 (129 - 128) (129 - 128) 0).bind _ = _
        rw [l1, Option.bind_some]
        unfold ber_Get_s2
        dsimp only
        rw [Size_eq, Option.bind_some]
        by_cases h7 : (y.1 : Int) < 128
        · rw [if_neg (by omega), if_neg (by omega), if_neg (by omega), decide_eq_true h7]; rfl
        · rw [if_neg (by omega), if_neg (by omega), if_pos (by omega), decide_eq_false h7]
          have : IntKind.i64.wrap (a + 1 + (129 - 128)) = IntKind.i64.wrap (a + 2) := by congr 1; omega
          simp only [this]
          rfl
    · by_cases h6 : (x.1 : Int) = 130
      · have wn : IntKind.i64.wrap (0 + 1) = 1 := rfl
        have wm : IntKind.i64.wrap (1 + 1) = 2 := rfl
        simp only [h6]
        by_cases h7 : (s.size : Int) - a < 3
        · have e1 : ((s.size : Int) - (a + 1) < 130 - 128) := by omega
          have e2 : ((s.size : Int) - a < 130 - 127) := by omega
          rw [decide_eq_true e1, decide_eq_true e2]; rfl
        · have e1 : ¬ ((s.size : Int) - (a + 1) < 130 - 128) := by omega
          have e2 : ¬ ((s.size : Int) - a < 130 - 127) := by omega
          have wb : ∀ {R : Type} (x : Option R), within (a + 1) s.size x = x := fun x => within_int (by omega) (by omega)
          have w8 : IntKind.i64.wrap (a + 2) = a + 2 := i64_id (by omega) (by omega)
          have w9 : IntKind.i64.wrap (a + 1 + 1) = a + 2 := by rw [i64_id (by omega) (by omega)]; omega
          have wd : ∀ {R : Type} (x : Option R), within (a + 2) s.size x = x := fun x => within_int (by omega) (by omega)
          obtain ⟨y, hy⟩ := byte_fin (byteAt_byte s (a + 1).toNat)
          obtain ⟨z, hz⟩ := byte_fin (byteAt_byte s (a + 2).toNat)
          have hy2 := y.2
          have hz2 := z.2
          have w3 : IntKind.i64.wrap (y.1 : Int) = (y.1 : Int) := i64_id (by omega) (by omega)
          have w3' : IntKind.i64.wrap (z.1 : Int) = (z.1 : Int) := i64_id (by omega) (by omega)
          have oz := or_zero (y := (y.1 : Int)) ⟨by omega, by omega⟩
          have ob := or_bytes (x := (y.1 : Int)) (y := (z.1 : Int)) ⟨by omega, by omega⟩ ⟨by omega, by omega⟩
          rw [w3] at oz
          rw [w3, w3'] at ob
          rw [decide_eq_false e1, decide_eq_false e2]
          have l1 : ber_Get_l0 (k + 1 + 1 + 1) s (a + 1) 0 (130 - 128) (130 - 128) 0 = some (a + 1, (y.1 : Int) * 256 + (z.1 : Int), 130 - 128) := by
            simp only [ber_Get_l0, ber_Get_s1]
            rw [show decide ((0 : Int) < 130 - 128) = true from rfl, cond_true, wn, wm, show decide ((1 : Int) < 130 - 128) = true from rfl, cond_true, show decide ((2 : Int) < 130 - 128) = false from rfl, cond_false, Int.add_zero, w1, wb, w9, wd, hy, hz, w3, w3', oz, ob]
          have w5' : IntKind.i64.wrap (256 * (y.1 : Int)) = 256 * (y.1 : Int) := i64_id (by omega) (by omega)
          have w6' : IntKind.i64.wrap (256 * (y.1 : Int) + (z.1 : Int)) = (y.1 : Int) * 256 + (z.1 : Int) := by rw [i64_id (by omega) (by omega)]; omega
          simp only [wb, w8, wd, hy, hz, w3, w3', w5', w6']
          show (ber_Get_l0 (k + 1 + 1 + 1) s (a + 1) 0 (130 - 128) (130 - 128) 0).bind _ = _
          rw [l1, Option.bind_some]
          unfold ber_Get_s2
          dsimp only
          rw [Size_eq, Option.bind_some]
          by_cases h8 : (y.1 : Int) = 0
          · rw [if_neg (by omega), if_neg (by omega), decide_eq_true h8]
            by_cases h9 : (127 : Int) < (y.1 : Int) * 256 + (z.1 : Int)
            · rw [if_pos h9]; rfl
            · rw [if_neg h9]; rfl
          · rw [if_neg (by omega), if_pos (by omega), decide_eq_false h8]
            have : IntKind.i64.wrap (a + 1 + (130 - 128)) = IntKind.i64.wrap (a + 3) := by congr 1; omega
            simp only [this]
            rfl
      · rw [decide_eq_false h5, decide_eq_false h6]
        by_cases h7 : (x.1 : Int) = 128
        · rw [decide_eq_true h7]; rfl
        · rw [decide_eq_false h7, decide_eq_true (by omega : (130 : Int) < (x.1 : Int))]; rfl
  · rw [decide_eq_false h4, cond_false, decide_eq_true (by omega : (x.1 : Int) < 128), cond_true, decide_eq_false (by omega : ¬ (s.size : Int) - (a + 1) < 0), cond_false]
    have l1 : ber_Get_l0 (k + 1 + 1 + 1) s (a + 1) (x.1 : Int) 0 0 0 = some (a + 1, (x.1 : Int), 0) := by
      simp only [ber_Get_l0, ber_Get_s1]
      rw [show decide ((0 : Int) < 0) = false from rfl, cond_false]
    show (ber_Get_l0 (k + 1 + 1 + 1) s (a + 1) (x.1 : Int) 0 0 0).bind _ = _
    rw [l1, Option.bind_some]
    unfold ber_Get_s2
    dsimp only
    rw [Size_eq, Option.bind_some, if_neg (by omega), if_neg (by omega), if_neg (by omega), Int.add_zero, w1]
    rfl
end Groat
set_option linter.unusedVariables false
set_option linter.unusedSimpArgs false
namespace Groat
open Go Go.Ref
abbrev Val := Int × ByteArray × Unit
theorem has10_loop (l : List Val) (hl : l.length ≤ 9223372036854775807) (t : Int) : ∀ (m j k : Nat), j + m = l.length → m < k → groatref10_has_l0 k l (l.length : Int) t (j : Int) = some (if t ∈ (l.drop j).map (fun v => v.1) then .inl true else .inr ())
  | m, j, 0, _, hk => by omega
  | 0, j, k + 1, hj, hk => by
    unfold groatref10_has_l0 groatref10_has_s1
    rw [decide_eq_false (by omega), List.drop_eq_nil_of_le (by omega)]; rfl
  | m + 1, j, k + 1, hj, hk => by
    have hlt : j < l.length := by omega
    have hg : ∀ d, l.getD j d = l[j] := fun d => by rw [List.getD_eq_getElem?_getD, List.getElem?_eq_getElem hlt]; rfl
    unfold groatref10_has_l0 groatref10_has_s1
    rw [decide_eq_true (by omega), cond_true, within_nat_lt hlt, Int.toNat_natCast, hg, List.drop_eq_getElem_cons hlt, List.map_cons]
    by_cases h : l[j].1 = t
    · rw [decide_eq_true h, if_pos (by rw [h]; exact List.mem_cons_self)]; rfl
    · rw [decide_eq_false h, cond_false, i64_succ (by omega)]
      dsimp only
      rw [has10_loop l hl t m (j + 1) k (by omega) (by omega)]
      by_cases h2 : t ∈ (l.drop (j + 1)).map (fun v => v.1)
      · rw [if_pos h2, if_pos (List.mem_cons_of_mem _ h2)]
      · rw [if_neg h2, if_neg (fun h3 => (List.mem_cons.1 h3).elim (fun e => h e.symm) h2)]
theorem has10_eq (l : List Val) (hl : l.length ≤ maxLen) (t : Int) : groatref10_has l (l.length : Int) t = some (decide (t ∈ l.map fun v => v.1)) := by
  rw [maxLen_eq] at hl
  unfold groatref10_has groatref10_has_s0
  dsimp only
  have := has10_loop l hl t l.length 0 FUEL (by omega) (by rw [fuel_eq]; omega)
  rw [show ((0 : Nat) : Int) = (0 : Int) from rfl, List.drop_zero] at this
  rw [this, Option.bind_some]
  by_cases h : t ∈ l.map fun v => v.1
  · rw [if_pos h, decide_eq_true h]; rfl
  · rw [if_neg h, decide_eq_false h]; rfl
theorem tlv_loop (b : ByteArray) (hb : b.size ≤ 9223372036854775000) : ∀ (k : Nat) (t5 : List Val) (t7 : Int), t5.length ≤ 5864062014805 → tlv_Get_l0 k b t5 t7 (seenM (t5.map fun v => v.1)) = groatref10_Get_l0 k b t5 t7
  | 0, _, _, _ => rfl
  | k + 1, t5, t7, hl => by
    unfold tlv_Get_l0 tlv_Get_s1 groatref10_Get_l0 groatref10_Get_s1
    rw [tagGet_eq b hb]
    generalize decide (t7 < (b.size : Int)) = c0
    cases c0 with
    | false => rfl
    | true =>
      simp only [cond_true]
      cases groatref08_Get b t7 with
      | none => rfl
      | some r1 =>
        simp only [Option.bind_some]
        generalize (!decide (r1.2.2 = 0)) = c1
        cases c1 with
        | true => rfl
        | false =>
          simp only [cond_false]
          rw [berGet_eq b hb]
          cases groatref09_Get b r1.2.1 with
          | none => rfl
          | some r2 =>
            simp only [Option.bind_some]
            generalize (!decide (r2.2.2 = 0)) = c2
            cases c2 with
            | true => rfl
            | false =>
              simp only [cond_false]
              generalize decide (IntKind.i64.wrap ((b.size : Int) - r2.2.1) < r2.1) = c3
              cases c3 with
              | true => rfl
              | false =>
                simp only [cond_false]
                rw [has10_eq t5 (by rw [maxLen_eq]; omega), Option.bind_some]
                have e1 := mget_seen (eqK (.int .i64)) (fun _ _ => rfl) r1.1 (t5.map fun v => v.1)
                have e2 := mhas_seen (eqK (.int .i64)) (fun _ _ => rfl) r1.1 (t5.map fun v => v.1)
                by_cases hm : r1.1 ∈ t5.map fun v => v.1
                · rw [e1.2 hm, decide_eq_true hm]; rfl
                · rw [not_true' e1 hm, not_true' e2 hm, decide_eq_false hm]
                  simp only [cond_false]
                  rw [seenM_append]
                  have hs : (t5.map fun v => v.1) ++ [r1.1] = (t5 ++ [((r1.1, (b.extract r2.2.1.toNat (IntKind.i64.wrap (r2.2.1 + r2.1)).toNat), ()) : Val)]).map fun v => v.1 := by simp
                  rw [hs]
                  by_cases hn : (t5.length + 1) * 24 ≤ 140737488355328
                  · rw [tlv_loop b hb k _ _ (by simp; omega)]
                  · have : decide ((t5.length + (List.length ([(r1.1, (b.extract r2.2.1.toNat (IntKind.i64.wrap (r2.2.1 + r2.1)).toNat), ())] : List Val))) * 24 ≤ 140737488355328) = false := decide_eq_false (by simp; omega)
                    simp only [this, cond_false]
theorem tlvGet_eq (b : ByteArray) (hb : b.size ≤ 9223372036854775000) : tlv_Get b = groatref10_Get b := by
  unfold tlv_Get tlv_Get_s0 groatref10_Get groatref10_Get_s0
  dsimp only
  have := tlv_loop b hb FUEL [] 0 (by simp)
  rw [show seenM (([] : List Val).map fun v => v.1) = [] from rfl] at this
  rw [this]
  rfl
theorem Value_eq (s : Spec) (x : ByteArray) (hx : x.size ≤ 9223372036854775000) : spec_Value s x = groatref11_Value s x := by
  unfold spec_Value spec_Value_s0 groatref11_Value groatref11_Value_s0
  rw [specCheck_eq, specCheck11_eq, First_eq _ _ (by rw [maxLen_eq]; omega), First04_eq _ _ (by rw [maxLen_eq]; omega), tlvGet_eq x hx]
theorem specWider_eq (a b : Spec) : spec_Wider a b = groatref11_Wider a b := by
  unfold spec_Wider spec_Wider_s0 groatref11_Wider groatref11_Wider_s0 spec_classes spec_classes_s0
  rw [specCheck_eq, specCheck11_eq, specCheck_eq, specCheck11_eq, Wider_eq, Wider04_eq]
  simp only [Option.bind_some]
  by_cases h1 : specC a = 0
  · by_cases h2 : specC b = 0
    · simp only [h1, h2, decide_true, cond_true, Bool.not_true, cond_false]
      by_cases h3 : a.2.2.2.1 ≤ b.2.2.2.1
      · rw [decide_eq_true h3, decide_eq_false (by omega : ¬ b.2.2.2.1 < a.2.2.2.1)]
        by_cases h4 : b.2.2.2.2.1 ≤ a.2.2.2.2.1
        · rw [decide_eq_true h4, decide_eq_false (by omega : ¬ a.2.2.2.2.1 < b.2.2.2.2.1)]
          simp only [cond_true, cond_false]
          by_cases h5 : a.2.1 = 5
          · simp [h5]
          · by_cases h6 : a.2.1 = 6
            · simp [h6]
            · by_cases h7 : b.2.1 = 6
              · simp [h5, h6, h7]
              · simp [h5, h6, h7]
        · rw [decide_eq_false h4, decide_eq_true (by omega : a.2.2.2.2.1 < b.2.2.2.2.1)]; rfl
      · rw [decide_eq_false h3, decide_eq_true (by omega : b.2.2.2.1 < a.2.2.2.1)]; rfl
    · simp [h1, h2]
  · simp [h1]
end Groat
set_option linter.unusedVariables false
set_option linter.unusedSimpArgs false
namespace Groat
open Go Go.Ref
theorem tag_total (s : ByteArray) (hs : s.size ≤ 9223372036854775000) (a : Int) (h0 : 0 ≤ a) (h1 : a < s.size) : ∃ r, groatref08_Get s a = some r ∧ (r.2.2 = 0 → a < r.2.1 ∧ r.2.1 ≤ s.size) := by
  unfold groatref08_Get groatref08_Get_s0
  have wa : ∀ {R : Type} (x : Option R), within a s.size x = x := fun x => within_int (by omega) (by omega)
  rw [decide_eq_false (by omega : ¬ a < 0), decide_eq_false (by omega : ¬ (s.size : Int) < a), decide_eq_false (by omega : ¬ a = (s.size : Int))]
  simp only [cond_false, wa]
  obtain ⟨x, hx⟩ := byte_fin (byteAt_byte s a.toNat)
  have w1 : IntKind.i64.wrap (a + 1) = a + 1 := i64_id (by omega) (by omega)
  have w4 : IntKind.i64.wrap ((s.size : Int) - a) = (s.size : Int) - a := i64_id (by omega) (by omega)
  rw [hx, w1, w4]
  rcases first2_fin x with h | ⟨h, h31⟩ | ⟨h, h31⟩
  · rw [h]; exact ⟨_, rfl, fun h => by cases h⟩
  · rw [h]
    exact ⟨_, rfl, fun _ => ⟨by show a < a + 1; omega, by show a + 1 ≤ _; omega⟩⟩
  · rw [h, Option.bind_some]
    simp only [show decide ((2 : Int) = 0) = false from rfl, show decide ((2 : Int) = 1) = false from rfl, cond_false]
    by_cases h4 : (s.size : Int) - a < 2
    · rw [decide_eq_true h4]; exact ⟨_, rfl, fun h => by cases h⟩
    · have wb : ∀ {R : Type} (x : Option R), within (a + 1) s.size x = x := fun x => within_int (by omega) (by omega)
      have w2 : IntKind.i64.wrap (a + 2) = a + 2 := i64_id (by omega) (by omega)
      rw [decide_eq_false h4]
      simp only [cond_false, wb]
      generalize decide (byteAt s (a + 1).toNat = 0) = c1
      generalize decide ((127 : Int) < byteAt s (a + 1).toNat) = c2
      cases c1
      · cases c2
        · exact ⟨_, rfl, fun _ => ⟨by show a < IntKind.i64.wrap (a + 2); rw [w2]; omega, by show IntKind.i64.wrap (a + 2) ≤ _; rw [w2]; omega⟩⟩
        · exact ⟨_, rfl, fun h => by cases h⟩
      · exact ⟨_, rfl, fun h => by cases h⟩
theorem ber_total (s : ByteArray) (hs : s.size ≤ 9223372036854775000) (a : Int) (h0 : 0 ≤ a) (h1 : a ≤ s.size) : ∃ r, groatref09_Get s a = some r ∧ (r.2.2 = 0 → a < r.2.1 ∧ r.2.1 ≤ s.size ∧ 0 ≤ r.1 ∧ r.1 ≤ 65535) := by
  unfold groatref09_Get groatref09_Get_s0
  rw [decide_eq_false (by omega : ¬ a < 0), decide_eq_false (by omega : ¬ (s.size : Int) < a)]
  simp only [cond_false]
  by_cases he : a = (s.size : Int)
  · rw [decide_eq_true he]; exact ⟨_, rfl, fun h => by cases h⟩
  have wa : ∀ {R : Type} (x : Option R), within a s.size x = x := fun x => within_int (by omega) (by omega)
  rw [decide_eq_false he]
  simp only [cond_false, wa]
  obtain ⟨x, hx⟩ := byte_fin (byteAt_byte s a.toNat)
  have hx2 := x.2
  have w1 : IntKind.i64.wrap (a + 1) = a + 1 := i64_id (by omega) (by omega)
  have w2 : IntKind.i64.wrap (x.1 : Int) = (x.1 : Int) := i64_id (by omega) (by omega)
  have w4 : IntKind.i64.wrap ((s.size : Int) - a) = (s.size : Int) - a := i64_id (by omega) (by omega)
  have w7 : IntKind.i64.wrap ((x.1 : Int) - 127) = (x.1 : Int) - 127 := i64_id (by omega) (by omega)
  simp only [hx, w2, w1, w4, w7]
  by_cases h4 : (x.1 : Int) < 128
  · rw [decide_eq_true h4]
    exact ⟨_, rfl, fun _ => ⟨by show a < a + 1; omega, by show a + 1 ≤ _; omega, by show (0 : Int) ≤ (x.1 : Int); omega, by show (x.1 : Int) ≤ 65535; omega⟩⟩
  rw [decide_eq_false h4]
  have h08 : ∀ i, isByte (byteAt s i) := byteAt_byte s
  by_cases h5 : (x.1 : Int) = 129
  · have wb : (s.size : Int) - a < (x.1 : Int) - 127 ∨ ∀ {R : Type} (x : Option R), within (a + 1) s.size x = x := by
      by_cases h : (s.size : Int) - a < (x.1 : Int) - 127
      · exact .inl h
      · exact .inr fun x => within_int (by omega) (by omega)
    rw [decide_eq_true h5]
    simp only [Bool.not_true, cond_false, cond_true]
    by_cases h6 : (s.size : Int) - a < (x.1 : Int) - 127
    · rw [decide_eq_true h6]; exact ⟨_, rfl, fun h => by cases h⟩
    · have wb : ∀ {R : Type} (x : Option R), within (a + 1) s.size x = x := fun x => within_int (by omega) (by omega)
      have w8 : IntKind.i64.wrap (a + 2) = a + 2 := i64_id (by omega) (by omega)
      obtain ⟨y, hy⟩ := byte_fin (h08 (a + 1).toNat)
      have hy2 := y.2
      have w3 : IntKind.i64.wrap (y.1 : Int) = (y.1 : Int) := i64_id (by omega) (by omega)
      rw [decide_eq_false h6]
      simp only [cond_false, wb, hy, w3, w8]
      generalize decide ((y.1 : Int) < 128) = c
      cases c
      · exact ⟨_, rfl, fun _ => ⟨by show a < a + 2; omega, by show a + 2 ≤ _; omega, by show (0 : Int) ≤ (y.1 : Int); omega, by show (y.1 : Int) ≤ 65535; omega⟩⟩
      · exact ⟨_, rfl, fun h => by cases h⟩
  · rw [decide_eq_false h5]
    simp only [Bool.not_false, cond_false, cond_true]
    by_cases h9 : (x.1 : Int) = 130
    · rw [decide_eq_true h9]
      simp only [Bool.not_true, cond_false]
      by_cases h6 : (s.size : Int) - a < (x.1 : Int) - 127
      · rw [decide_eq_true h6]; exact ⟨_, rfl, fun h => by cases h⟩
      · have wb : ∀ {R : Type} (x : Option R), within (a + 1) s.size x = x := fun x => within_int (by omega) (by omega)
        have w8 : IntKind.i64.wrap (a + 2) = a + 2 := i64_id (by omega) (by omega)
        have w9 : IntKind.i64.wrap (a + 3) = a + 3 := i64_id (by omega) (by omega)
        have wd : ∀ {R : Type} (x : Option R), within (a + 2) s.size x = x := fun x => within_int (by omega) (by omega)
        obtain ⟨y, hy⟩ := byte_fin (h08 (a + 1).toNat)
        obtain ⟨z, hz⟩ := byte_fin (h08 (a + 2).toNat)
        have hy2 := y.2
        have hz2 := z.2
        have w3 : IntKind.i64.wrap (y.1 : Int) = (y.1 : Int) := i64_id (by omega) (by omega)
        have w3' : IntKind.i64.wrap (z.1 : Int) = (z.1 : Int) := i64_id (by omega) (by omega)
        have w5' : IntKind.i64.wrap (256 * (y.1 : Int)) = 256 * (y.1 : Int) := i64_id (by omega) (by omega)
        have w6' : IntKind.i64.wrap (256 * (y.1 : Int) + (z.1 : Int)) = 256 * (y.1 : Int) + (z.1 : Int) := i64_id (by omega) (by omega)
        rw [decide_eq_false h6]
        simp only [cond_false, wb, w8, wd, hy, hz, w3, w3', w5', w6', w9]
        generalize decide ((y.1 : Int) = 0) = c
        cases c
        · exact ⟨_, rfl, fun _ => ⟨by show a < a + 3; omega, by show a + 3 ≤ _; omega, by show (0 : Int) ≤ 256 * (y.1 : Int) + (z.1 : Int); omega, by show 256 * (y.1 : Int) + (z.1 : Int) ≤ 65535; omega⟩⟩
        · exact ⟨_, rfl, fun h => by cases h⟩
    · rw [decide_eq_false h9]; exact ⟨_, rfl, fun h => by cases h⟩
theorem tlv10_total_loop (b : ByteArray) (hb : b.size ≤ 1099511627776) : ∀ (n : Nat) (k : Nat) (t5 : List Val) (a : Int), 0 ≤ a → a ≤ b.size → (b.size : Int) - a ≤ n → n < k → t5.length + n ≤ 2199023255552 → ∃ r, groatref10_Get_l0 k b t5 a = some r
  | n, 0, _, _, _, _, _, h, _ => by omega
  | n, k + 1, t5, a, h0, h1, h2, h3, h4 => by
    unfold groatref10_Get_l0 groatref10_Get_s1
    by_cases hlt : a < (b.size : Int)
    · obtain ⟨r1, e1, p1⟩ := tag_total b (by omega) a h0 hlt
      rw [decide_eq_true hlt, e1, Option.bind_some, cond_true]
      by_cases z1 : r1.2.2 = 0
      · obtain ⟨q1, q2⟩ := p1 z1
        obtain ⟨r2, e2, p2⟩ := ber_total b (by omega) r1.2.1 (by omega) q2
        simp only [z1, decide_true, Bool.not_true, cond_false]
        rw [e2, Option.bind_some]
        by_cases z2 : r2.2.2 = 0
        · obtain ⟨u1, u2, u3, u4⟩ := p2 z2
          simp only [z2, decide_true, Bool.not_true, cond_false]
          have w1 : IntKind.i64.wrap ((b.size : Int) - r2.2.1) = (b.size : Int) - r2.2.1 := i64_id (by omega) (by omega)
          have w2 : IntKind.i64.wrap (r2.2.1 + r2.1) = r2.2.1 + r2.1 := i64_id (by omega) (by omega)
          rw [w1, w2]
          by_cases z3 : (b.size : Int) - r2.2.1 < r2.1
          · rw [decide_eq_true z3]; exact ⟨_, rfl⟩
          · rw [decide_eq_false z3, cond_false, has10_eq t5 (by rw [maxLen_eq]; omega), Option.bind_some]
            generalize decide (r1.1 ∈ t5.map fun v => v.1) = c
            cases c with
            | true => exact ⟨_, rfl⟩
            | false =>
              rw [cond_false, decide_eq_true (by omega : 0 ≤ r2.2.1 + r2.1), decide_eq_true (by omega : r2.2.1 + r2.1 ≤ (((b.size : Nat) : Int))), decide_eq_true (by omega : 0 ≤ r2.2.1), decide_eq_true (by omega : r2.2.1 ≤ (((r2.2.1 + r2.1).toNat : Nat) : Int)), decide_eq_true (by simp; omega)]
              simp only [cond_true]
              obtain ⟨n, rfl⟩ : ∃ n', n = n' + 1 := ⟨n - 1, by omega⟩
              exact tlv10_total_loop b hb n k _ _ (by omega) (by omega) (by omega) (by omega) (by simp; omega)
        · simp only [z2, decide_false, Bool.not_false, cond_true]; exact ⟨_, rfl⟩
      · simp only [z1, decide_false, Bool.not_false, cond_true]; exact ⟨_, rfl⟩
    · rw [decide_eq_false hlt]; exact ⟨_, rfl⟩
theorem tlv10_total (b : ByteArray) (hb : b.size ≤ 1099511627776) : ∃ r, groatref10_Get b = some r := by
  unfold groatref10_Get groatref10_Get_s0
  dsimp only
  obtain ⟨r, hr⟩ := tlv10_total_loop b hb b.size FUEL [] 0 (by omega) (by omega) (by omega) (by rw [fuel_eq]; omega) (by simp; omega)
  rw [hr, Option.bind_some]
  cases r <;> exact ⟨_, rfl⟩
@[irreducible] def valC (s : Spec) (x : ByteArray) : Int := (groatref11_Value s x).getD 0
theorem Value11_eq (s : Spec) (x : ByteArray) (hx : x.size ≤ 1099511627776) : groatref11_Value s x = some (valC s x) := by
  have : ∃ v, groatref11_Value s x = some v := by
    unfold groatref11_Value groatref11_Value_s0
    rw [specCheck11_eq, Option.bind_some, First04_eq _ _ (by rw [maxLen_eq]; omega), Option.bind_some]
    obtain ⟨r, hr⟩ := tlv10_total x hx
    rw [hr, Option.bind_some]
    generalize (!decide (specC s = 0)) = c1
    generalize decide ((x.size : Int) < s.2.2.2.1) = c2
    generalize decide (s.2.2.2.2.1 < (x.size : Int)) = c3
    generalize decide ((0 : Int) ≤ firstC s.2.1 (bl x) 0) = c4
    generalize decide (s.2.1 = 6) = c5
    cases c1 <;> cases c2 <;> cases c3 <;> cases c4 <;> cases c5 <;> first | exact ⟨_, rfl⟩ | skip
    cases r with
    | inl r => simp only [cond_false, cond_true, Sum.elim_inl]; cases (!decide (r.2.1 = 0)) <;> exact ⟨_, rfl⟩
    | inr r => simp only [cond_false, cond_true, Sum.elim_inr]; cases (!decide (r.2.1 = 0)) <;> exact ⟨_, rfl⟩
  obtain ⟨v, hv⟩ := this
  unfold valC
  rw [hv]; rfl
theorem Value_eq' (s : Spec) (x : ByteArray) (hx : x.size ≤ 1099511627776) : spec_Value s x = some (valC s x) := by
  rw [Value_eq s x (by omega), Value11_eq s x hx]
@[irreducible] def widS (a b : Spec) : Bool := (groatref11_Wider a b).getD false
theorem Wider11_eq (a b : Spec) : groatref11_Wider a b = some (widS a b) := by
  have : ∃ v, groatref11_Wider a b = some v := by
    unfold groatref11_Wider groatref11_Wider_s0
    rw [specCheck11_eq, specCheck11_eq, Wider04_eq]
    simp only [Option.bind_some]
    generalize (!decide (specC a = 0)) = c1
    generalize (!decide (specC b = 0)) = c2
    generalize decide (b.2.2.2.1 < a.2.2.2.1) = c3
    generalize decide (a.2.2.2.2.1 < b.2.2.2.2.1) = c4
    generalize decide (a.2.1 = 5) = c5
    generalize decide (a.2.1 = 6) = c6
    generalize decide (b.2.1 = 6) = c7
    cases c1 <;> cases c2 <;> cases c3 <;> cases c4 <;> cases c5 <;> cases c6 <;> cases c7 <;> exact ⟨_, rfl⟩
  obtain ⟨v, hv⟩ := this
  unfold widS
  rw [hv]; rfl
theorem Wider_eq' (a b : Spec) : spec_Wider a b = some (widS a b) := by rw [specWider_eq, Wider11_eq]
end Groat
set_option linter.unusedVariables false
set_option linter.unusedSimpArgs false
namespace Groat
open Go Go.Ref
abbrev Rule := Int × Int × Int × ByteArray × List Pair × Unit
def getS (s : Schema) (no : Int) : Spec := (findS s.2.2.1 no).getD spec0
def hasS (s : Schema) (no : Int) : Bool := (findS s.2.2.1 no).isSome
theorem Find_eq2 (s : Schema) (no : Int) (hl : s.2.2.1.length ≤ maxLen) : schema_Find s no = some (getS s no, hasS s no) := by
  rw [Find_eq s no hl]
  unfold getS hasS
  cases findS s.2.2.1 no <;> rfl
theorem idx_cases (s : Schema) (no : Int) : (idxS s.2.2.1 no 0 = -1 ∧ hasS s no = false ∧ getS s no = spec0) ∨ (0 ≤ idxS s.2.2.1 no 0 ∧ idxS s.2.2.1 no 0 < s.2.2.1.length ∧ hasS s no = true ∧ s.2.2.1.getD (idxS s.2.2.1 no 0).toNat spec0 = getS s no) := by
  unfold hasS getS
  rcases idxS_range s.2.2.1 no 0 (Int.le_refl _) with ⟨h1, h2⟩ | ⟨h1, h2, x, h3, h4⟩
  · left; rw [h2]; exact ⟨h1, rfl, rfl⟩
  · right; rw [h3]; rw [Int.sub_zero] at h4; exact ⟨h1, by omega, rfl, h4⟩
def endsE (r : Rule) (a b : Schema) : Bool :=
  (bif decide (r.1 = 3) then !decide (r.2.1 = 0) else !hasS a r.2.1) || (bif decide (r.1 = 2) then !decide (r.2.2.1 = 0) else !hasS b r.2.2.1)
def textE (r : Rule) : Bool := (!decide (r.2.2.2.1 = bs []) && !decide (r.1 = 3)) || (decide (0 < (r.2.2.2.2.1.length : Int)) && !decide (r.1 = 5))
def padS (s : Spec) : Bool := decide (s.2.1 = 1) && decide (s.2.2.1 = 1)
def valsC : List Pair → Spec → Spec → Int
  | [], _, _ => 0
  | p :: r, x, y => bif !decide (valC x p.1 = 0) then valC x p.1 else bif !decide (valC y p.2.1 = 0) then valC y p.2.1 else valsC r x y
def tableR (l : List Pair) (x y : Spec) : Int := bif (!decide ((tableC l).1 = 0) || decide ((l.length : Int) = 0)) then 15 else valsC l x y
def kindC (r : Rule) (x y : Spec) : Int :=
  bif decide (r.1 = 1) then (bif widS y x then 0 else 6) else bif decide (r.1 = 3) then valC y r.2.2.2.1 else bif decide (r.1 = 4) then (bif padS x && padS y then 0 else 6) else bif decide (r.1 = 5) then tableR r.2.2.2.2.1 x y else 0
def ruleC (r : Rule) (a b : Schema) : Int :=
  bif decide (r.1 < 1) || decide (5 < r.1) then 1 else bif endsE r a b then 9 else bif textE r then 3 else kindC r (getS a r.2.1) (getS b r.2.2.1)
structure PairsOk (l : List Pair) : Prop where
  len : l.length ≤ 1000000
  sz : ∀ p ∈ l, p.1.size ≤ 1099511627776 ∧ p.2.1.size ≤ 1099511627776
structure RuleOk (r : Rule) : Prop where
  text : r.2.2.2.1.size ≤ 1099511627776
  pairs : PairsOk r.2.2.2.2.1
theorem ends_eq (r : Rule) (a b : Schema) (ha : a.2.2.1.length ≤ maxLen) (hb : b.2.2.1.length ≤ maxLen) : rule_ends r a b = some (getS a r.2.1, getS b r.2.2.1, bif endsE r a b then 9 else 0) := by
  unfold rule_ends rule_ends_s0 endsE
  rw [Find_eq2 a _ ha, Find_eq2 b _ hb]
  simp only [Option.bind_some]
  generalize decide (r.1 = 3) = k3
  generalize decide (r.1 = 2) = k2
  generalize decide (r.2.1 = 0) = z1
  generalize decide (r.2.2.1 = 0) = z2
  generalize hasS a r.2.1 = h1
  generalize hasS b r.2.2.1 = h2
  cases k3 <;> cases k2 <;> cases z1 <;> cases z2 <;> cases h1 <;> cases h2 <;> rfl
theorem padded_eq (s : Spec) : rule_padded s = some (padS s) := by
  unfold rule_padded rule_padded_s0 padS
  generalize decide (s.2.1 = 1) = c1
  generalize decide (s.2.2.1 = 1) = c2
  cases c1 <;> cases c2 <;> rfl
def vres (v : Int) : Sum Int Unit := if v = 0 then .inr () else .inl v
theorem table_run (x y : Spec) : ∀ (l : List Pair) (i : Int), (∀ p ∈ l, p.1.size ≤ 1099511627776 ∧ p.2.1.size ≤ 1099511627776) →
    runI (fun i (p : Pair) (s : Unit) K => ((spec_Value x p.1).bind fun r2 => (bif (!decide (r2 = 0)) then some (Sum.inl r2) else ((spec_Value y p.2.1).bind fun r3 => (bif (!decide (r3 = 0)) then some (Sum.inl r3) else K s))))) (fun _ => some (Sum.inr ())) l i () = some (vres (valsC l x y))
  | [], i, _ => rfl
  | p :: r, i, h => by
    obtain ⟨h1, h2⟩ := h p List.mem_cons_self
    simp only [runI, valsC]
    rw [Value_eq' x p.1 h1, Option.bind_some]
    by_cases z1 : valC x p.1 = 0
    · rw [decide_eq_true z1]
      simp only [Bool.not_true, cond_false]
      rw [Value_eq' y p.2.1 h2, Option.bind_some]
      by_cases z2 : valC y p.2.1 = 0
      · rw [decide_eq_true z2]
        simp only [Bool.not_true, cond_false]
        exact table_run x y r (i + 1) fun q hq => h q (List.mem_cons_of_mem _ hq)
      · rw [decide_eq_false z2]
        simp only [Bool.not_false, cond_true, vres, if_neg z2]
    · rw [decide_eq_false z1]
      simp only [Bool.not_false, cond_true, vres, if_neg z1]
theorem table_eq (l : List Pair) (x y : Spec) (h : PairsOk l) : rule_table l x y = some (tableR l x y) := by
  have hl := h.len
  unfold rule_table rule_table_s0 tableR
  dsimp only
  rw [codesCheck_eq l (by rw [maxLen_eq]; omega), Option.bind_some]
  cases (!decide ((tableC l).1 = 0)) with
  | true => rfl
  | false =>
    cases decide ((l.length : Int) = 0) with
    | true => rfl
    | false =>
      simp only [cond_false, Bool.or_false]
      have := loopI pair0 l (by rw [maxLen_eq]; omega) (fun i (p : Pair) (s : Unit) K => ((spec_Value x p.1).bind fun r2 => (bif (!decide (r2 = 0)) then some (Sum.inl r2) else ((spec_Value y p.2.1).bind fun r3 => (bif (!decide (r3 = 0)) then some (Sum.inl r3) else K s))))) (fun _ => some (Sum.inr ()))
        (fun k i s => rule_table_l0 k l (l.length : Int) i x y) (fun k i s => rfl) ()
      rw [this, table_run x y l 0 h.sz, Option.bind_some]
      unfold vres
      by_cases z : valsC l x y = 0
      · rw [if_pos z, z]; rfl
      · rw [if_neg z]; rfl
theorem ruleCheck_eq (r : Rule) (a b : Schema) (h : RuleOk r) (ha : a.2.2.1.length ≤ maxLen) (hb : b.2.2.1.length ≤ maxLen) : rule_Check r a b = some (ruleC r a b) := by
  unfold rule_Check rule_Check_s0 ruleC kindC textE
  rw [ends_eq r a b ha hb]
  simp only [Option.bind_some, Wider_eq', Value_eq' _ _ h.text, padded_eq, table_eq _ _ _ h.pairs]
  generalize endsE r a b = e
  generalize decide (r.1 < 1) = c1
  generalize decide ((5 : Int) < r.1) = c2
  generalize decide (r.2.2.2.1 = bs []) = t
  generalize decide ((0 : Int) < (r.2.2.2.2.1.length : Int)) = p
  generalize decide (r.1 = 1) = k1
  generalize decide (r.1 = 3) = k3
  generalize decide (r.1 = 4) = k4
  generalize decide (r.1 = 5) = k5
  generalize padS (getS a r.2.1) = p1
  generalize padS (getS b r.2.2.1) = p2
  generalize widS (getS b r.2.2.1) (getS a r.2.1) = w
  cases c1 <;> cases c2 <;> first | rfl | skip
  cases e <;> first | rfl | skip
  cases t <;> cases p <;> cases k3 <;> cases k5 <;> first | rfl | skip
  all_goals (cases k1 <;> cases k4 <;> cases p1 <;> cases p2 <;> cases w <;> rfl)
end Groat
set_option linter.unusedVariables false
set_option linter.unusedSimpArgs false
namespace Groat
open Go Go.Ref
end Groat
set_option linter.unusedVariables false
set_option linter.unusedSimpArgs false
namespace Groat
open Go Go.Ref
def isDig (b : Int) : Bool := decide (48 ≤ b ∧ b ≤ 57)
def allD (l : List Int) : Bool := l.all isDig
theorem allD_cons (b : Int) (l : List Int) : allD (b :: l) = (isDig b && allD l) := rfl
theorem isDig_t {b : Int} (h : 48 ≤ b ∧ b ≤ 57) : isDig b = true := decide_eq_true h
theorem isDig_f {b : Int} (h : ¬ (48 ≤ b ∧ b ≤ 57)) : isDig b = false := decide_eq_false h
theorem bl_get {s : ByteArray} {j : Nat} (h : j < s.size) : (bl s).getD j 0 = ((s[j]'h).toNat : Int) := by
  rw [← bl_byteAt]
  unfold byteAt
  rw [dif_pos h]
theorem drop_bl {s : ByteArray} {j : Nat} (h : j < s.size) : (bl s).drop j = ((s[j]'h).toNat : Int) :: (bl s).drop (j + 1) := by
  have h' : j < (bl s).length := by rw [bl_length]; exact h
  rw [List.drop_eq_getElem_cons h']
  congr 1
  have := bl_get h
  rw [List.getD_eq_getElem?_getD, List.getElem?_eq_getElem h'] at this
  exact this
theorem decode_high (s : ByteArray) (pos : Nat) (h : pos < s.size) (ha : 128 ≤ (s[pos]'h).toNat) : 128 ≤ (Utf8.decode s pos).1 := by
  have e : s.get! (pos + 0) = s[pos]'h := by
    show s.get! pos = _
    simp [ByteArray.get!, getElem!_pos, h]
    rfl
  unfold Utf8.decode
  simp only [e]
  rw [if_neg (by omega)]
  have hre : 128 ≤ Utf8.runeError := by unfold Utf8.runeError; omega
  split
  · split
    · assumption
    · exact hre
  · split
    · split
      · rename_i hc
        simp only [Bool.and_eq_true, decide_eq_true_eq] at hc
        have := hc.1
        simp only
        omega
      · exact hre
    · split
      · split
        · rename_i hc
          simp only [Bool.and_eq_true, decide_eq_true_eq] at hc
          have := hc.1
          simp only
          omega
        · exact hre
      · exact hre
theorem all_loop (s : ByteArray) : ∀ (n j k : Nat), s.size - j ≤ n → j ≤ s.size → n < k → digits_All_l0 k (s, j) = some (bif allD ((bl s).drop j) then .inr () else .inl false)
  | n, j, 0, _, _, hk => by omega
  | n, j, k + 1, hn, hj, hk => by
    unfold digits_All_l0 digits_All_s1
    dsimp only
    by_cases hlt : j < s.size
    · rw [decide_eq_true hlt, cond_true, drop_bl hlt, allD_cons]
      by_cases h1 : (s[j]'hlt).toNat < 128
      · rw [decode_ascii s j hlt h1]
        dsimp only
        by_cases h2 : ((s[j]'hlt).toNat : Int) < 48
        · rw [decide_eq_true h2, cond_true, isDig_f (by omega)]; rfl
        · rw [decide_eq_false h2, cond_false]
          by_cases h3 : (57 : Int) < ((s[j]'hlt).toNat : Int)
          · rw [decide_eq_true h3, cond_true, isDig_f (by omega)]; rfl
          · obtain ⟨n, rfl⟩ : ∃ n', n = n' + 1 := ⟨n - 1, by omega⟩
            rw [decide_eq_false h3, cond_false, isDig_t (by omega), Bool.true_and, all_loop s n (j + 1) k (by omega) (by omega) (by omega)]
      · have hd := decode_high s j hlt (by omega)
        rw [decide_eq_false (by omega : ¬ ((Utf8.decode s j).1 : Int) < 48), cond_false, decide_eq_true (by omega : (57 : Int) < ((Utf8.decode s j).1 : Int)), cond_true, isDig_f (by omega)]; rfl
    · rw [decide_eq_false hlt, cond_false, List.drop_eq_nil_of_le (by rw [bl_length]; omega)]; rfl
theorem All_eq (s : ByteArray) (h : s.size ≤ maxLen) : digits_All s = some (allD (bl s)) := by
  unfold digits_All digits_All_s0
  dsimp only
  rw [maxLen_eq] at h
  rw [all_loop s s.size 0 FUEL (by omega) (by omega) (by rw [fuel_eq]; omega), List.drop_zero]
  cases allD (bl s) <;> rfl
end Groat
set_option linter.unusedVariables false
set_option linter.unusedSimpArgs false
namespace Groat
open Go Go.Ref
theorem dig_byte {l : List Int} (h : allD l = true) : ∀ x ∈ l, isByte x := fun x hx => by
  have := List.all_eq_true.1 h x hx
  simp only [isDig, decide_eq_true_eq] at this
  unfold isByte; omega
theorem set_rep (x : Int) (tail : List Int) : ∀ j, (List.replicate (j + 1) (0 : Int) ++ tail).set j x = List.replicate j 0 ++ x :: tail
  | 0 => rfl
  | j + 1 => by
    show (0 : Int) :: ((List.replicate (j + 1) (0 : Int) ++ tail).set j x) = 0 :: (List.replicate j 0 ++ x :: tail)
    rw [set_rep x tail j]
end Groat
set_option linter.unusedVariables false
set_option linter.unusedSimpArgs false
namespace Groat
open Go Go.Ref
def allZ (l : List Int) : Bool := l.all fun b => decide (b = 48)
theorem allZ_cons (b : Int) (l : List Int) : allZ (b :: l) = (decide (b = 48) && allZ l) := rfl
theorem allZ_append (a b : List Int) : allZ (a ++ b) = (allZ a && allZ b) := List.all_append ..
theorem bl_byteAt0 (s : ByteArray) (x : Int) (l : List Int) (h : bl s = x :: l) : byteAt s 0 = x := by rw [bl_byteAt, h]; rfl
theorem trimR (k : Nat) : ∀ (s : ByteArray), s.size < k → s.size ≤ 9223372036854775807 → ∃ r, strings_trimRightByte_l0 k s 48 = some r ∧ allZ (bl r) = allZ (bl s) ∧ (allZ (bl s) = true → bl r = []) ∧ r.size ≤ s.size := by
  induction k with
  | zero => intro s h; omega
  | succ k ih =>
    intro s h hs
    unfold strings_trimRightByte_l0 strings_trimRightByte_s1
    dsimp only
    by_cases h0 : (0 : Int) < (s.size : Int)
    · have hm : IntKind.i64.wrap ((s.size : Int) - 1) = ((s.size - 1 : Nat) : Int) := by rw [i64_id (by omega) (by omega)]; omega
      rw [decide_eq_true h0, cond_true, hm, within_nat_lt (by omega), Int.toNat_natCast]
      have hl : (bl s).length = s.size := bl_length s
      have hne : bl s ≠ [] := by intro e; rw [e] at hl; simp at hl; omega
      obtain ⟨r, b, hb⟩ : ∃ r b, bl s = r ++ [b] := ⟨(bl s).dropLast, (bl s).getLast hne, (List.dropLast_concat_getLast hne).symm⟩
      have hr : r.length = s.size - 1 := by rw [hb] at hl; simp at hl; omega
      have hx : byteAt s (s.size - 1) = b := by
        rw [bl_byteAt, hb, ← hr, List.getD_eq_getElem?_getD]; simp
      rw [hx]
      by_cases hz : b = 48
      · rw [decide_eq_true hz, cond_true, decide_eq_true (by omega : (0 : Int) ≤ ((s.size - 1 : Nat) : Int)), cond_true, decide_eq_true (by omega : ((s.size - 1 : Nat) : Int) ≤ ((s.size : Nat) : Int)), cond_true]
        have he : bl (s.extract 0 (s.size - 1)) = r := by rw [bl_extract, hb, List.drop_zero, ← hr, List.take_left']; rfl
        have hsz : (s.extract 0 (s.size - 1)).size = s.size - 1 := by rw [← bl_length, he, hr]
        obtain ⟨q, q1, q2, q3, q4⟩ := ih (s.extract 0 (s.size - 1)) (by omega) (by omega)
        refine ⟨q, q1, ?_, fun ha => q3 ?_, by omega⟩
        · rw [q2, he, hb, allZ_append, allZ_cons, decide_eq_true hz]; simp [allZ]
        · rw [hb, allZ_append, Bool.and_eq_true] at ha
          rw [he]; exact ha.1
      · rw [decide_eq_false hz, cond_false]
        refine ⟨s, rfl, rfl, fun ha => ?_, Nat.le_refl _⟩
        rw [hb, allZ_append, allZ_cons, decide_eq_false hz] at ha
        simp at ha
    · rw [decide_eq_false h0, cond_false]
      refine ⟨s, rfl, rfl, fun _ => List.eq_nil_of_length_eq_zero (by rw [bl_length]; omega), Nat.le_refl _⟩
theorem drop1 {s : ByteArray} {x : Int} {l : List Int} (h : bl s = x :: l) : bl (s.extract 1 s.size) = l := by
  rw [bl_extract, ← bl_length, List.take_length, h]; rfl
theorem trimL (k : Nat) : ∀ (s : ByteArray), s.size < k → s.size ≤ 9223372036854775807 → ∃ r, strings_trimLeftByte_l0 k s 48 = some r ∧ ((bl r = []) ↔ allZ (bl s) = true) := by
  induction k with
  | zero => intro s h; omega
  | succ k ih =>
    intro s h hs
    unfold strings_trimLeftByte_l0 strings_trimLeftByte_s1
    dsimp only
    have hl : (bl s).length = s.size := bl_length s
    by_cases h0 : (0 : Int) < (s.size : Int)
    · rw [decide_eq_true h0, cond_true, within_int (by omega) h0]
      cases hb : bl s with
      | nil => rw [hb] at hl; simp at hl; omega
      | cons x l =>
        rw [show ((0 : Int)).toNat = 0 from rfl, show ((1 : Int)).toNat = 1 from rfl, bl_byteAt0 s x l hb]
        by_cases hz : x = 48
        · rw [decide_eq_true hz, cond_true, decide_eq_true (by omega : (1 : Int) ≤ ((s.size : Nat) : Int)), cond_true]
          have he := drop1 hb
          have hsz : (s.extract 1 s.size).size = s.size - 1 := by rw [← bl_length, he, ← hl, hb]; simp
          obtain ⟨q, q1, q2⟩ := ih (s.extract 1 s.size) (by omega) (by omega)
          refine ⟨q, q1, q2.trans ?_⟩
          rw [he, allZ_cons, decide_eq_true hz]; simp
        · rw [decide_eq_false hz, cond_false]
          refine ⟨s, rfl, ?_⟩
          rw [hb, allZ_cons, decide_eq_false hz]; simp
    · rw [decide_eq_false h0, cond_false]
      have : bl s = [] := List.eq_nil_of_length_eq_zero (by omega)
      refine ⟨s, rfl, ?_⟩
      rw [this]; simp [allZ]
theorem Trim_eq (s : ByteArray) (h : s.size ≤ 9223372036854775807) : ∃ r, strings_Trim s (bs [48]) = some r ∧ (r = bs [] ↔ allZ (bl s) = true) := by
  unfold strings_Trim strings_Trim_s0
  by_cases h0 : s = bs []
  · rw [decide_eq_true h0, cond_true]
    refine ⟨s, rfl, ?_⟩
    rw [h0]; simp [bl_empty, allZ]
  rw [decide_eq_false h0, cond_false, decide_eq_false (show ¬ bs [48] = bs [] from fun e => absurd (congrArg ByteArray.size e) (by decide)), cond_false, decide_eq_true (by rfl : (((bs [48]).size : Nat) : Int) = 1), cond_true]
  have hb : byteAt (bs [48]) ((0 : Int)).toNat = 48 := by rw [bl_byteAt]; rfl
  have hw {R : Type} (x : Option R) : within (0 : Int) (bs [48]).size x = x := within_int (by omega) (by decide)
  rw [hw, hb, decide_eq_true (by decide : (48 : Int) < 128), cond_true, hw]
  unfold strings_trimRightByte strings_trimRightByte_s0
  dsimp only
  obtain ⟨r, r1, r2, r3, r4⟩ := trimR FUEL s (by rw [fuel_eq]; omega) h
  rw [r1, some_bind]
  unfold strings_trimRightByte_s2
  rw [some_bind, hw]
  unfold strings_trimLeftByte strings_trimLeftByte_s0
  dsimp only
  obtain ⟨q, q1, q2⟩ := trimL FUEL r (by rw [fuel_eq]; omega) (by omega)
  rw [q1, some_bind]
  unfold strings_trimLeftByte_s2
  rw [some_bind]
  refine ⟨q, rfl, ?_⟩
  rw [bl_nil_iff, q2, r2]
theorem repeat_bl : ∀ (c : Nat), bl ⟨(Go.Lib.repeatL (bs [48]).data.toList c).toArray⟩ = List.replicate c 48
  | 0 => rfl
  | c + 1 => by
    rw [List.replicate_succ, ← repeat_bl c]
    simp only [bl, Go.Lib.repeatL, List.map_append]
    rfl
def padD (s : ByteArray) (w : Int) : ByteArray × Bool :=
  bif decide (1 ≤ s.size ∧ s.size ≤ 999 ∧ allD (bl s) = true ∧ 1 ≤ w ∧ w ≤ 999) then
    (bif decide ((s.size : Int) ≤ w) then (strOf (List.replicate (w - s.size).toNat 48 ++ bl s), true)
     else bif allZ ((bl s).take (s.size - w.toNat)) then (strOf ((bl s).drop (s.size - w.toNat)), true) else (bs [], false))
  else (bs [], false)
theorem padD_f {s : ByteArray} {w : Int} (h : ¬ (1 ≤ s.size ∧ s.size ≤ 999 ∧ allD (bl s) = true ∧ 1 ≤ w ∧ w ≤ 999)) : padD s w = (bs [], false) := by unfold padD; rw [decide_eq_false h]; rfl
theorem padD_t {s : ByteArray} {w : Int} (h : 1 ≤ s.size ∧ s.size ≤ 999 ∧ allD (bl s) = true ∧ 1 ≤ w ∧ w ≤ 999) : padD s w = (bif decide ((s.size : Int) ≤ w) then (strOf (List.replicate (w - s.size).toNat 48 ++ bl s), true)
     else bif allZ ((bl s).take (s.size - w.toNat)) then (strOf ((bl s).drop (s.size - w.toNat)), true) else (bs [], false)) := by unfold padD; rw [decide_eq_true h]; rfl
theorem Pad_eq (s : ByteArray) (w : Int) (h : s.size ≤ maxLen) : digits_Pad s w = some (padD s w) := by
  unfold digits_Pad digits_Pad_s0
  dsimp only
  by_cases h0 : s = bs []
  · rw [decide_eq_true h0, cond_true, padD_f]
    intro hh
    rw [h0] at hh
    exact absurd hh.1 (by decide)
  have hz : s.size ≠ 0 := fun e => h0 (bl_nil_iff.2 (List.eq_nil_of_length_eq_zero (by rw [bl_length]; exact e)))
  rw [decide_eq_false h0, cond_false]
  by_cases h1 : (999 : Int) < (s.size : Int)
  · rw [decide_eq_true h1, cond_true, padD_f (by omega)]
  rw [decide_eq_false h1, cond_false, All_eq s h, some_bind]
  cases hd : allD (bl s) with
  | false => rw [padD_f (by rw [hd]; simp)]; rfl
  | true =>
    rw [Bool.not_true, cond_false]
    by_cases h2 : w < 1
    · rw [decide_eq_true h2, cond_true, padD_f (by omega)]
    rw [decide_eq_false h2, cond_false]
    by_cases h3 : (999 : Int) < w
    · rw [decide_eq_true h3, cond_true, padD_f (by omega)]
    rw [decide_eq_false h3, cond_false, padD_t ⟨by omega, by omega, hd, by omega, by omega⟩]
    obtain ⟨v, rfl⟩ : ∃ v : Nat, w = v := ⟨w.toNat, by omega⟩
    by_cases h4 : (s.size : Int) ≤ (v : Int)
    · rw [decide_eq_true h4, cond_true, cond_true]
      obtain ⟨c, hc⟩ : ∃ c : Nat, (v : Int) - (s.size : Int) = (c : Int) := ⟨v - s.size, by omega⟩
      rw [hc, i64_nat (by omega)]
      have hR : strings_Repeat (bs [48]) (c : Int) = some ⟨(Go.Lib.repeatL (bs [48]).data.toList c).toArray⟩ := by
        unfold strings_Repeat
        rw [decide_eq_true (by omega : (0 : Int) ≤ (c : Int)), decide_eq_true (by omega : (c : Int) ≤ 9223372036854775807), decide_eq_true (by rw [show (((bs [48]).size : Nat) : Int) = 1 from rfl]; omega), Int.toNat_natCast]
        rfl
      rw [hR, some_bind]
      have hsz : ((⟨(Go.Lib.repeatL (bs [48]).data.toList c).toArray⟩ : ByteArray)).size = c := by rw [← bl_length, repeat_bl, List.length_replicate]
      rw [hsz, decide_eq_true (by omega), cond_true, Int.toNat_natCast]
      congr 2
      apply bl_inj
      rw [bl_append, repeat_bl, bl_strOf]
      intro x hx
      rcases List.mem_append.1 hx with hx | hx
      · rw [(List.mem_replicate.1 hx).2]; unfold isByte; omega
      · exact bl_byte hx
    · rw [decide_eq_false h4, cond_false, cond_false]
      obtain ⟨c, hc⟩ : ∃ c : Nat, (s.size : Int) - (v : Int) = (c : Int) := ⟨s.size - v, by omega⟩
      have hcv : s.size - ((v : Int)).toNat = c := by omega
      rw [hc, i64_nat (by omega), decide_eq_true (by omega : (0 : Int) ≤ (c : Int)), cond_true, decide_eq_true (by omega : (c : Int) ≤ ((s.size : Nat) : Int)), cond_true, Int.toNat_natCast, hcv]
      have hx : bl (s.extract 0 c) = (bl s).take c := by rw [bl_extract, List.drop_zero]
      have hxs : (s.extract 0 c).size = c := by rw [← bl_length, hx, List.length_take, bl_length]; omega
      obtain ⟨r, r1, r2⟩ := Trim_eq (s.extract 0 c) (by omega)
      rw [r1, some_bind]
      rw [hx] at r2
      cases ha : allZ ((bl s).take c) with
      | true =>
        rw [decide_eq_true (r2.2 ha), Bool.not_true, cond_false, cond_true, cond_true]
        congr 2
        apply bl_inj
        rw [bl_extract, ← bl_length, List.take_length, bl_strOf]
        exact fun x hx => bl_byte (List.mem_of_mem_drop hx)
      | false =>
        rw [decide_eq_false (fun e => by rw [r2.1 e] at ha; cases ha), Bool.not_false, cond_true]; rfl
end Groat
set_option linter.unusedVariables false
set_option linter.unusedSimpArgs false
namespace Groat
open Go Go.Ref
@[irreducible] def tlvE (x : ByteArray) : Int := ((groatref10_Get x).map fun r => Sum.elim (fun (w : (List (Int × ByteArray × Unit)) × Int × Int) => w.2.1) (fun (w : (List (Int × ByteArray × Unit)) × Int × Int) => w.2.1) r).getD 0
theorem valC_iff (s : Spec) (x : ByteArray) (hx : x.size ≤ 1099511627776) : valC s x = 0 ↔ specC s = 0 ∧ s.2.2.2.1 ≤ (x.size : Int) ∧ (x.size : Int) ≤ s.2.2.2.2.1 ∧ (bl x).all (isC s.2.1) = true ∧ (s.2.1 = 6 → tlvE x = 0) := by
  have h := Value11_eq s x hx
  unfold groatref11_Value groatref11_Value_s0 at h
  rw [specCheck11_eq, Option.bind_some, First04_eq _ _ (by rw [maxLen_eq]; omega), Option.bind_some] at h
  obtain ⟨r, hr⟩ := tlv10_total x hx
  have ht : tlvE x = Sum.elim (fun (w : (List (Int × ByteArray × Unit)) × Int × Int) => w.2.1) (fun (w : (List (Int × ByteArray × Unit)) × Int × Int) => w.2.1) r := by unfold tlvE; rw [hr]; rfl
  rw [hr, Option.bind_some] at h
  by_cases c1 : specC s = 0
  · rw [decide_eq_true c1, Bool.not_true, cond_false] at h
    by_cases c2 : (x.size : Int) < s.2.2.2.1
    · rw [decide_eq_true c2, cond_true] at h
      have := Option.some.inj h
      exact ⟨fun e => by omega, fun e => by omega⟩
    rw [decide_eq_false c2, cond_false] at h
    by_cases c3 : s.2.2.2.2.1 < (x.size : Int)
    · rw [decide_eq_true c3, cond_true] at h
      have := Option.some.inj h
      exact ⟨fun e => by omega, fun e => by omega⟩
    rw [decide_eq_false c3, cond_false] at h
    have hf := firstC_none s.2.1 (bl x) 0 (Int.le_refl _)
    by_cases c4 : (0 : Int) ≤ firstC s.2.1 (bl x) 0
    · rw [decide_eq_true c4, cond_true] at h
      have := Option.some.inj h
      exact ⟨fun e => by omega, fun e => absurd e.2.2.2.1 (hf.1 c4)⟩
    rw [decide_eq_false c4, cond_false] at h
    have hall : (bl x).all (isC s.2.1) = true := by
      cases hq : (bl x).all (isC s.2.1) with
      | true => rfl
      | false => exact absurd (hf.2 (by rw [hq]; decide)) c4
    by_cases c5 : s.2.1 = 6
    · rw [decide_eq_true c5, cond_true] at h
      have key : (bif (!decide (tlvE x = 0)) then some (13 : Int) else some 0) = some (valC s x) := by
        rw [← h]
        cases r with
        | inl r => rw [Sum.elim_inl] at ht ⊢; rw [← ht]
        | inr r => rw [Sum.elim_inr] at ht ⊢; rw [← ht]
      by_cases c6 : tlvE x = 0
      · rw [decide_eq_true c6] at key
        have := Option.some.inj key
        exact ⟨fun _ => ⟨c1, by omega, by omega, hall, fun _ => c6⟩, fun _ => this.symm⟩
      · rw [decide_eq_false c6] at key
        have := Option.some.inj key
        exact ⟨fun e => by omega, fun e => absurd (e.2.2.2.2 c5) c6⟩
    · rw [decide_eq_false c5, cond_false] at h
      have := Option.some.inj h
      exact ⟨fun _ => ⟨c1, by omega, by omega, hall, fun e => absurd e c5⟩, fun _ => this.symm⟩
  · rw [decide_eq_false c1, Bool.not_false, cond_true] at h
    have := Option.some.inj h
    exact ⟨fun e => by omega, fun e => absurd e.1 c1⟩
theorem widS_iff (a b : Spec) : widS a b = true ↔ specC a = 0 ∧ specC b = 0 ∧ a.2.2.2.1 ≤ b.2.2.2.1 ∧ b.2.2.2.2.1 ≤ a.2.2.2.2.1 ∧ (a.2.1 = 5 ∨ (a.2.1 = 6 ∧ b.2.1 = 6) ∨ (a.2.1 ≠ 5 ∧ a.2.1 ≠ 6 ∧ b.2.1 ≠ 6 ∧ widerC a.2.1 b.2.1 = true)) := by
  have h := Wider11_eq a b
  unfold groatref11_Wider groatref11_Wider_s0 at h
  rw [specCheck11_eq, specCheck11_eq, Wider04_eq] at h
  simp only [Option.bind_some] at h
  by_cases c1 : specC a = 0
  · rw [decide_eq_true c1, Bool.not_true, cond_false] at h
    by_cases c2 : specC b = 0
    · rw [decide_eq_true c2, Bool.not_true, cond_false] at h
      by_cases c3 : b.2.2.2.1 < a.2.2.2.1
      · rw [decide_eq_true c3, cond_true] at h
        have := Option.some.inj h
        exact ⟨fun e => (by rw [e] at this; cases this), fun e => by omega⟩
      rw [decide_eq_false c3, cond_false] at h
      by_cases c4 : a.2.2.2.2.1 < b.2.2.2.2.1
      · rw [decide_eq_true c4, cond_true] at h
        have := Option.some.inj h
        exact ⟨fun e => (by rw [e] at this; cases this), fun e => by omega⟩
      rw [decide_eq_false c4, cond_false] at h
      by_cases c5 : a.2.1 = 5
      · rw [decide_eq_true c5, cond_true] at h
        have := Option.some.inj h
        exact ⟨fun _ => ⟨c1, c2, by omega, by omega, .inl c5⟩, fun _ => this.symm⟩
      rw [decide_eq_false c5, cond_false] at h
      by_cases c6 : a.2.1 = 6
      · rw [decide_eq_true c6, cond_true] at h
        have := Option.some.inj h
        rw [← this, decide_eq_true_eq]
        exact ⟨fun e => ⟨c1, c2, by omega, by omega, .inr (.inl ⟨c6, by omega⟩)⟩, fun e => by omega⟩
      rw [decide_eq_false c6, cond_false] at h
      by_cases c7 : b.2.1 = 6
      · rw [decide_eq_true c7, cond_true] at h
        have := Option.some.inj h
        rw [← this, decide_eq_true_eq]
        exact ⟨fun e => by omega, fun e => by omega⟩
      rw [decide_eq_false c7, cond_false] at h
      have := Option.some.inj h
      rw [← this]
      refine ⟨fun e => ⟨c1, c2, by omega, by omega, .inr (.inr ⟨c5, c6, c7, e⟩)⟩, fun e => ?_⟩
      rcases e.2.2.2.2 with e | e | e
      · exact absurd e c5
      · exact absurd e.1 c6
      · exact e.2.2.2
    · rw [decide_eq_false c2, Bool.not_false, cond_true] at h
      have := Option.some.inj h
      exact ⟨fun e => (by rw [e] at this; cases this), fun e => absurd e.2.1 c2⟩
  · rw [decide_eq_false c1, Bool.not_false, cond_true] at h
    have := Option.some.inj h
    exact ⟨fun e => (by rw [e] at this; cases this), fun e => absurd e.1 c1⟩
theorem specC_facts {s : Spec} (h : specC s = 0) : (2 ≤ s.1 ∧ s.1 ≤ 128) ∧ (1 ≤ s.2.1 ∧ s.2.1 ≤ 6) ∧ (1 ≤ s.2.2.1 ∧ s.2.2.1 ≤ 3) ∧ (1 ≤ s.2.2.2.1 ∧ s.2.2.2.1 ≤ s.2.2.2.2.1 ∧ s.2.2.2.2.1 ≤ 999) ∧ (s.2.2.1 = 1 → s.2.2.2.1 = s.2.2.2.2.1) ∧ ¬ (s.2.2.1 = 1 ∧ s.2.1 = 6) := by
  unfold specC at h
  split at h
  · omega
  split at h
  · omega
  split at h
  · omega
  split at h
  · omega
  split at h
  · omega
  · omega
theorem wid_fin : ∀ a b : Fin 7, widerC (a.1 : Int) (b.1 : Int) = true → a.1 ≠ 5 → a.1 ≠ 6 → b.1 ≠ 6 → (a.1 = b.1 ∨ (a.1 = 3 ∧ (b.1 = 1 ∨ b.1 = 2)) ∨ (a.1 = 4 ∧ (b.1 = 1 ∨ b.1 = 2 ∨ b.1 = 3))) := by decide +kernel
theorem wid_class {a b : Int} (h : widerC a b = true) (h5 : a ≠ 5) (h6 : a ≠ 6) (h7 : b ≠ 6) : a = b ∨ (a = 3 ∧ (b = 1 ∨ b = 2)) ∨ (a = 4 ∧ (b = 1 ∨ b = 2 ∨ b = 3)) := by
  have hr : 1 ≤ a ∧ a ≤ 6 ∧ 1 ≤ b ∧ b ≤ 6 := by
    unfold widerC at h
    rw [Bool.and_eq_true, decide_eq_true_eq] at h
    exact h.1
  obtain ⟨x, rfl⟩ := in_fin ⟨hr.1, hr.2.1⟩
  obtain ⟨y, rfl⟩ := in_fin ⟨hr.2.2.1, hr.2.2.2⟩
  have := wid_fin x y h (by omega) (by omega) (by omega)
  omega
theorem isC_mono {a b x : Int} (h : a = b ∨ (a = 3 ∧ (b = 1 ∨ b = 2)) ∨ (a = 4 ∧ (b = 1 ∨ b = 2 ∨ b = 3))) (hx : isC b x = true) : isC a x = true := by
  rcases h with rfl | ⟨rfl, rfl | rfl⟩ | ⟨rfl, rfl | rfl | rfl⟩
  · exact hx
  all_goals
    simp [isC] at hx ⊢
    omega
theorem isC_five (x : Int) : isC 5 x = true := by simp [isC]
theorem valC_wider {y x : Spec} {t : ByteArray} (ht : t.size ≤ 1099511627776) (hw : widS y x = true) (hv : valC x t = 0) : valC y t = 0 := by
  obtain ⟨w1, w2, w3, w4, w5⟩ := (widS_iff y x).1 hw
  obtain ⟨v1, v2, v3, v4, v5⟩ := (valC_iff x t ht).1 hv
  refine (valC_iff y t ht).2 ⟨w1, by omega, by omega, ?_, ?_⟩
  · rcases w5 with e | e | e
    · rw [e, List.all_eq_true]; exact fun b _ => isC_five b
    · rw [e.1, ← e.2]; exact v4
    · rw [List.all_eq_true] at v4 ⊢
      exact fun b hb => isC_mono (wid_class e.2.2.2 e.1 e.2.1 e.2.2.1) (v4 b hb)
  · intro e6
    rcases w5 with e | e | e
    · omega
    · exact v5 e.2
    · exact absurd e6 e.2.1
theorem isC_one : isC 1 = isDig := by funext b; simp [isC, isDig]
theorem all_one (l : List Int) : l.all (isC 1) = allD l := by rw [isC_one]; rfl
theorem padD_ok {t : ByteArray} {w : Int} (h : (padD t w).2 = true) : 1 ≤ w ∧ w ≤ 999 ∧ (((padD t w).1).size : Int) = w ∧ allD (bl (padD t w).1) = true := by
  by_cases hc : 1 ≤ t.size ∧ t.size ≤ 999 ∧ allD (bl t) = true ∧ 1 ≤ w ∧ w ≤ 999
  · rw [padD_t hc] at h ⊢
    by_cases h4 : (t.size : Int) ≤ w
    · rw [decide_eq_true h4, cond_true]
      have hd : allD (List.replicate (w - t.size).toNat 48 ++ bl t) = true := by
        have e : allD (List.replicate (w - t.size).toNat 48 ++ bl t) = (allD (List.replicate (w - t.size).toNat 48) && allD (bl t)) := List.all_append ..
        have e2 : allD (List.replicate (w - t.size).toNat 48) = true := by
          rw [allD, List.all_eq_true]
          intro x hx
          rw [(List.mem_replicate.1 hx).2]; rfl
        rw [e, e2, hc.2.2.1]; rfl
      refine ⟨hc.2.2.2.1, hc.2.2.2.2, ?_, ?_⟩
      · rw [strOf_size, List.length_append, List.length_replicate, bl_length]; omega
      · rw [bl_strOf (dig_byte hd)]; exact hd
    · rw [decide_eq_false h4, cond_false] at h ⊢
      cases hz : allZ ((bl t).take (t.size - w.toNat)) with
      | false => rw [hz] at h; cases h
      | true =>
        rw [cond_true]
        have hd : allD ((bl t).drop (t.size - w.toNat)) = true := by
          rw [allD, List.all_eq_true]
          intro x hx
          exact List.all_eq_true.1 hc.2.2.1 x (List.mem_of_mem_drop hx)
        refine ⟨hc.2.2.2.1, hc.2.2.2.2, ?_, ?_⟩
        · rw [strOf_size, List.length_drop, bl_length]; omega
        · rw [bl_strOf (dig_byte hd)]; exact hd
  · rw [padD_f hc] at h; cases h
theorem padS_facts {s : Spec} (h : padS s = true) : s.2.1 = 1 ∧ s.2.2.1 = 1 := by
  unfold padS at h
  rw [Bool.and_eq_true, decide_eq_true_eq, decide_eq_true_eq] at h
  exact h
abbrev val0 : Val := (0, bs [], ())
def applyR (r : Rule) (b : Schema) (t : ByteArray) : Val × Int :=
  bif decide (r.1 = 1) then ((r.2.2.1, t, ()), 0) else bif decide (r.1 = 2) then (val0, 0) else bif decide (r.1 = 3) then ((r.2.2.1, r.2.2.2.1, ()), 0)
  else bif decide (r.1 = 4) then (bif !hasS b r.2.2.1 then (val0, 9) else bif !(padD t (getS b r.2.2.1).2.2.2.1).2 then (val0, 5) else ((r.2.2.1, (padD t (getS b r.2.2.1).2.2.2.1).1, ()), 0))
  else bif decide (r.1 = 5) then (bif !(applyP r.2.2.2.2.1 t).2 then (val0, 15) else ((r.2.2.1, (applyP r.2.2.2.2.1 t).1, ()), 0)) else (val0, 1)
theorem ruleApply_eq (r : Rule) (b : Schema) (t : ByteArray) (hp : r.2.2.2.2.1.length ≤ maxLen) (hb : b.2.2.1.length ≤ maxLen) (ht : t.size ≤ maxLen) : rule_Apply r b t = some (applyR r b t) := by
  unfold rule_Apply rule_Apply_s0 applyR
  rw [Find_eq2 b _ hb, Option.bind_some, Pad_eq t _ ht, Option.bind_some, codesApply_eq _ _ hp, Option.bind_some]
  generalize decide (r.1 = 1) = k1
  generalize decide (r.1 = 2) = k2
  generalize decide (r.1 = 3) = k3
  generalize decide (r.1 = 4) = k4
  generalize decide (r.1 = 5) = k5
  generalize hasS b r.2.2.1 = h
  generalize padD t (getS b r.2.2.1).2.2.2.1 = p
  generalize applyP r.2.2.2.2.1 t = q
  obtain ⟨p1, p2⟩ := p
  obtain ⟨q1, q2⟩ := q
  cases k1 <;> cases k2 <;> cases k3 <;> cases k4 <;> cases k5 <;> cases h <;> cases p2 <;> cases q2 <;> rfl
theorem getS_mem {s : Schema} {no : Int} (h : hasS s no = true) : getS s no ∈ s.2.2.1 ∧ (getS s no).1 = no := by
  unfold hasS at h
  unfold getS
  cases hf : findS s.2.2.1 no with
  | none => rw [hf] at h; cases h
  | some x =>
    unfold findS at hf
    exact ⟨List.mem_of_find?_eq_some hf, by simpa using List.find?_some hf⟩
theorem okay_spec {s : Schema} (h : Okay s) {no : Int} (hh : hasS s no = true) : specC (getS s no) = 0 := h.2.2.2.1 _ (getS_mem hh).1
theorem applyP_mem {l : List Pair} {t : ByteArray} (h : (applyP l t).2 = true) : ∃ p ∈ l, p.1 = t ∧ (applyP l t).1 = p.2.1 := by
  unfold applyP at h ⊢
  cases hf : l.find? fun p => decide (p.1 = t) with
  | none => rw [hf] at h; cases h
  | some p => exact ⟨p, List.mem_of_find?_eq_some hf, by simpa using List.find?_some hf, rfl⟩
theorem valsC_mem : ∀ {l : List Pair} {x y : Spec}, valsC l x y = 0 → ∀ p ∈ l, valC x p.1 = 0 ∧ valC y p.2.1 = 0
  | [], x, y, h, p, hp => by cases hp
  | q :: l, x, y, h, p, hp => by
    unfold valsC at h
    by_cases h1 : valC x q.1 = 0
    · rw [decide_eq_true h1, Bool.not_true, cond_false] at h
      by_cases h2 : valC y q.2.1 = 0
      · rw [decide_eq_true h2, Bool.not_true, cond_false] at h
        rcases List.mem_cons.1 hp with rfl | hp
        · exact ⟨h1, h2⟩
        · exact valsC_mem h p hp
      · rw [decide_eq_false h2, Bool.not_false, cond_true] at h; exact absurd h h2
    · rw [decide_eq_false h1, Bool.not_false, cond_true] at h; exact absurd h h1
theorem ruleC_zero {r : Rule} {a b : Schema} (h : ruleC r a b = 0) : (1 ≤ r.1 ∧ r.1 ≤ 5) ∧ endsE r a b = false ∧ textE r = false ∧ kindC r (getS a r.2.1) (getS b r.2.2.1) = 0 := by
  unfold ruleC at h
  by_cases c1 : r.1 < 1
  · rw [decide_eq_true c1] at h; cases h
  by_cases c2 : 5 < r.1
  · rw [decide_eq_true c2, Bool.or_true] at h; cases h
  rw [decide_eq_false c1, decide_eq_false c2, Bool.or_false, cond_false] at h
  cases he : endsE r a b with
  | true => rw [he] at h; cases h
  | false =>
    rw [he, cond_false] at h
    cases ht : textE r with
    | true => rw [ht] at h; cases h
    | false => rw [ht, cond_false] at h; exact ⟨by omega, rfl, rfl, h⟩
theorem ends_zero {r : Rule} {a b : Schema} (h : endsE r a b = false) : (r.1 = 3 → r.2.1 = 0) ∧ (r.1 ≠ 3 → hasS a r.2.1 = true) ∧ (r.1 = 2 → r.2.2.1 = 0) ∧ (r.1 ≠ 2 → hasS b r.2.2.1 = true) := by
  unfold endsE at h
  rw [Bool.or_eq_false_iff] at h
  obtain ⟨h1, h2⟩ := h
  refine ⟨fun e => ?_, fun e => ?_, fun e => ?_, fun e => ?_⟩
  · rw [decide_eq_true e, cond_true] at h1; simpa using h1
  · rw [decide_eq_false e, cond_false] at h1; simpa using h1
  · rw [decide_eq_true e, cond_true] at h2; simpa using h2
  · rw [decide_eq_false e, cond_false] at h2; simpa using h2
theorem apply_valid {r : Rule} {a b : Schema} {t : ByteArray} (ht : t.size ≤ 1099511627776) (hr : RuleOk r) (hc : ruleC r a b = 0) (hb : Okay b) (hv : hasS a r.2.1 = true → valC (getS a r.2.1) t = 0) :
    ((applyR r b t).2 ≠ 0 → ((r.1 = 4 ∧ (applyR r b t).2 = 5) ∨ (r.1 = 5 ∧ (applyR r b t).2 = 15)) ∧ (applyR r b t).1 = val0) ∧
    ((applyR r b t).2 = 0 → (r.1 = 2 → (applyR r b t).1 = val0) ∧ (r.1 ≠ 2 → (applyR r b t).1.1 = r.2.2.1 ∧ hasS b r.2.2.1 = true ∧ valC (getS b r.2.2.1) (applyR r b t).1.2.1 = 0)) := by
  obtain ⟨c1, c2, c3, c4⟩ := ruleC_zero hc
  obtain ⟨e1, e2, e3, e4⟩ := ends_zero c2
  unfold kindC at c4
  have hk : r.1 = 1 ∨ r.1 = 2 ∨ r.1 = 3 ∨ r.1 = 4 ∨ r.1 = 5 := by omega
  unfold applyR
  rcases hk with k | k | k | k | k
  · rw [decide_eq_true k, cond_true] at c4 ⊢
    refine ⟨fun h => absurd rfl h, fun _ => ⟨fun e => by omega, fun _ => ⟨rfl, e4 (by omega), ?_⟩⟩⟩
    cases hw : widS (getS b r.2.2.1) (getS a r.2.1) with
    | false => rw [hw] at c4; cases c4
    | true => exact valC_wider ht hw (hv (e2 (by omega)))
  · rw [decide_eq_false (by omega : ¬ r.1 = 1), decide_eq_true k, cond_false, cond_true]
    exact ⟨fun h => absurd rfl h, fun _ => ⟨fun _ => rfl, fun e => absurd k e⟩⟩
  · rw [decide_eq_false (by omega : ¬ r.1 = 1), decide_eq_true k, cond_false, cond_true] at c4
    rw [decide_eq_false (by omega : ¬ r.1 = 1), decide_eq_false (by omega : ¬ r.1 = 2), decide_eq_true k, cond_false, cond_false, cond_true]
    exact ⟨fun h => absurd rfl h, fun _ => ⟨fun e => by omega, fun _ => ⟨rfl, e4 (by omega), c4⟩⟩⟩
  · rw [decide_eq_false (by omega : ¬ r.1 = 1), decide_eq_false (by omega : ¬ r.1 = 3), decide_eq_true k, cond_false, cond_false, cond_true] at c4
    rw [decide_eq_false (by omega : ¬ r.1 = 1), decide_eq_false (by omega : ¬ r.1 = 2), decide_eq_false (by omega : ¬ r.1 = 3), decide_eq_true k, cond_false, cond_false, cond_false, cond_true, e4 (by omega), Bool.not_true, cond_false]
    have hy := okay_spec hb (e4 (by omega))
    have hpd : padS (getS b r.2.2.1) = true := by
      cases hp : (padS (getS a r.2.1) && padS (getS b r.2.2.1)) with
      | false => rw [hp] at c4; cases c4
      | true => exact (Bool.and_eq_true_iff.1 hp).2
    obtain ⟨y1, y2⟩ := padS_facts hpd
    obtain ⟨_, _, _, f4, f5, _⟩ := specC_facts hy
    cases hp : (padD t (getS b r.2.2.1).2.2.2.1).2 with
    | false => exact ⟨fun _ => ⟨.inl ⟨k, rfl⟩, rfl⟩, fun e => by cases e⟩
    | true =>
      obtain ⟨p1, p2, p3, p4⟩ := padD_ok hp
      rw [Bool.not_true, cond_false]
      refine ⟨fun h => absurd rfl h, fun _ => ⟨fun e => by omega, fun _ => ⟨rfl, rfl, ?_⟩⟩⟩
      have := f5 y2
      refine (valC_iff _ _ (by show (padD t (getS b r.2.2.1).2.2.2.1).1.size ≤ 1099511627776; omega)).2 ⟨hy, ?_, ?_, ?_, fun e => by omega⟩
      · show _ ≤ ((padD t (getS b r.2.2.1).2.2.2.1).1.size : Int); omega
      · show ((padD t (getS b r.2.2.1).2.2.2.1).1.size : Int) ≤ _; omega
      · rw [y1, all_one]; exact p4
  · rw [decide_eq_false (by omega : ¬ r.1 = 1), decide_eq_false (by omega : ¬ r.1 = 3), decide_eq_false (by omega : ¬ r.1 = 4), decide_eq_true k, cond_false, cond_false, cond_false, cond_true] at c4
    rw [decide_eq_false (by omega : ¬ r.1 = 1), decide_eq_false (by omega : ¬ r.1 = 2), decide_eq_false (by omega : ¬ r.1 = 3), decide_eq_false (by omega : ¬ r.1 = 4), decide_eq_true k, cond_false, cond_false, cond_false, cond_false, cond_true]
    unfold tableR at c4
    cases hp : (applyP r.2.2.2.2.1 t).2 with
    | false => exact ⟨fun _ => ⟨.inr ⟨k, rfl⟩, rfl⟩, fun e => by cases e⟩
    | true =>
      rw [Bool.not_true, cond_false]
      refine ⟨fun h => absurd rfl h, fun _ => ⟨fun e => by omega, fun _ => ⟨rfl, e4 (by omega), ?_⟩⟩⟩
      obtain ⟨p, hm, _, hq⟩ := applyP_mem hp
      show valC _ (applyP r.2.2.2.2.1 t).1 = 0
      rw [hq]
      cases hz : (!decide ((tableC r.2.2.2.2.1).1 = 0) || decide ((r.2.2.2.2.1.length : Int) = 0)) with
      | true => rw [hz] at c4; cases c4
      | false => rw [hz, cond_false] at c4; exact (valsC_mem c4 p hm).2
end Groat
set_option linter.unusedVariables false
set_option linter.unusedSimpArgs false
namespace Groat
open Go Go.Ref
def rightM (m : ByteArray) : Bool := decide ((m.size : Int) = 4) && allD (bl m)
def reqM (m : ByteArray) : Bool := rightM m && (decide (byteAt m 2 = 48) || decide (byteAt m 2 = 50))
def versM (m : ByteArray) (v : Int) : Bool := rightM m && decide (byteAt m 0 - 48 = v)
def typedP (p : Pair) (a b : Schema) : Bool := versM p.1 a.2.1 && (versM p.2.1 b.2.1 && (reqM p.1 == reqM p.2.1))
end Groat
set_option linter.unusedVariables false
set_option linter.unusedSimpArgs false
namespace Groat
open Go Go.Ref
abbrev Map := List Pair × List Rule × Unit
structure MapOk (m : Map) : Prop where
  mtis : PairsOk m.1
  len : m.2.1.length ≤ 1000000
  rules : ∀ r ∈ m.2.1, RuleOk r
def mtisC (a b : Schema) : List ByteArray → List Pair → Int → Option (Int × Int)
  | _, [], _ => none
  | seen, p :: r, i => if typedP p a b = true then (if p.1 ∈ seen then some (10, i) else mtisC a b (seen ++ [p.1]) r (i + 1)) else some (7, i)
def twiceR (x y : Rule) : Bool := (!decide (x.2.1 = 0) && decide (x.2.1 = y.2.1)) || (!decide (x.2.2.1 = 0) && decide (x.2.2.1 = y.2.2.1))
def rulesC (a b : Schema) : List Rule → List Rule → Int → Option (Int × Int)
  | _, [], _ => none
  | prev, r :: l, i => if ruleC r a b = 0 then (if prev.any (fun q => twiceR q r) = true then some (10, i) else rulesC a b (prev ++ [r]) l (i + 1)) else some (ruleC r a b, i)
def mapC (m : Map) (a b : Schema) : Int × Int × Int :=
  if (schemaC a).1 = 0 then (if (schemaC b).1 = 0 then (if 256 < m.1.length then (5, 2, 256) else match mtisC a b [] m.1 0 with
    | some e => (e.1, 2, e.2)
    | none => if 256 < m.2.1.length then (5, 3, 256) else match rulesC a b [] m.2.1 0 with
      | some e => (e.1, 3, e.2)
      | none => (0, 0, 0)) else (1, 1, 1)) else (1, 1, 0)
end Groat
set_option linter.unusedVariables false
set_option linter.unusedSimpArgs false
namespace Groat
open Go Go.Ref
end Groat
set_option linter.unusedVariables false
set_option linter.unusedSimpArgs false
namespace Groat
open Go Go.Ref
instance ruleDec : DecidableEq Rule := fun x y => decidable_of_iff ((decide (x.1 = y.1) && (decide (x.2.1 = y.2.1) && (decide (x.2.2.1 = y.2.2.1) && (decide (x.2.2.2.1 = y.2.2.2.1) && decide (x.2.2.2.2.1 = y.2.2.2.2.1))))) = true) (by obtain ⟨a1, a2, a3, a4, a5, u⟩ := x; obtain ⟨b1, b2, b3, b4, b5, v⟩ := y; simp)
instance mapDec : DecidableEq Map := fun x y => decidable_of_iff ((decide (x.1 = y.1) && decide (x.2.1 = y.2.1)) = true) (by obtain ⟨a1, a2, u⟩ := x; obtain ⟨b1, b2, v⟩ := y; simp)
def turnR (r : Rule) : Rule := (r.1, r.2.2.1, r.2.1, r.2.2.2.1, turnP r.2.2.2.2.1, ())
def turnM (m : Map) : Map := (turnP m.1, m.2.1.map turnR, ())
end Groat
set_option linter.unusedVariables false
set_option linter.unusedSimpArgs false
namespace Groat
open Go Go.Ref
structure Rule0 (r : Rule) (a b : Schema) : Prop where
  lo : ¬ r.1 < 1
  hi : ¬ (5 : Int) < r.1
  ends : endsE r a b = false
  text : textE r = false
  kind : kindC r (getS a r.2.1) (getS b r.2.2.1) = 0
theorem mtisC_none {a b : Schema} : ∀ {l : List Pair} {seen : List ByteArray} {i : Int}, mtisC a b seen l i = none ↔ (∀ p ∈ l, typedP p a b = true) ∧ dupP seen l i = none
  | [], seen, i => by simp [mtisC, dupP]
  | p :: r, seen, i => by
    simp only [mtisC, dupP, List.mem_cons, forall_eq_or_imp]
    cases ht : typedP p a b with
    | false => simp
    | true =>
      rw [if_pos rfl]
      by_cases hm : p.1 ∈ seen
      · simp [hm]
      · rw [if_neg hm, if_neg hm, mtisC_none]
        simp
def NoTwice : List Rule → List Rule → Prop
  | _, [] => True
  | prev, r :: l => prev.any (fun q => twiceR q r) = false ∧ NoTwice (prev ++ [r]) l
theorem rulesC_none {a b : Schema} : ∀ {l : List Rule} {prev : List Rule} {i : Int}, rulesC a b prev l i = none ↔ (∀ r ∈ l, ruleC r a b = 0) ∧ NoTwice prev l
  | [], prev, i => by simp [rulesC, NoTwice]
  | r :: l, prev, i => by
    simp only [rulesC, NoTwice, List.mem_cons, forall_eq_or_imp]
    by_cases z : ruleC r a b = 0
    · rw [if_pos z]
      cases hp : prev.any (fun q => twiceR q r) with
      | true => simp
      | false =>
        rw [if_neg (by simp), rulesC_none]
        simp [z]
    · rw [if_neg z]; simp [z]
structure Map0 (m : Map) (a b : Schema) : Prop where
  sa : (schemaC a).1 = 0
  sb : (schemaC b).1 = 0
  len1 : m.1.length ≤ 256
  typed : ∀ p ∈ m.1, typedP p a b = true
  dup : dupP [] m.1 0 = none
  len2 : m.2.1.length ≤ 256
  rules : ∀ r ∈ m.2.1, ruleC r a b = 0
  twice : NoTwice [] m.2.1
theorem Map0.eq {m : Map} {a b : Schema} (h : Map0 m a b) : mapC m a b = (0, 0, 0) := by
  unfold mapC
  have e1 := mtisC_none.2 ⟨h.typed, h.dup⟩
  have e2 : rulesC a b [] m.2.1 0 = none := rulesC_none.2 ⟨h.rules, h.twice⟩
  have l1 := h.len1
  have l2 := h.len2
  rw [if_pos h.sa, if_pos h.sb, if_neg (by omega), e1]
  simp only
  rw [if_neg (by omega), e2]
theorem PairsOk.turn {l : List Pair} (h : PairsOk l) : PairsOk (turnP l) := ⟨by rw [turnP_len]; exact h.len, fun p hp => by
  unfold turnP at hp
  obtain ⟨q, hq, rfl⟩ := List.mem_map.1 hp
  exact ⟨(h.sz q hq).2, (h.sz q hq).1⟩⟩
theorem MapOk.turn {m : Map} (h : MapOk m) : MapOk (turnM m) := ⟨h.mtis.turn, by show (m.2.1.map turnR).length ≤ _; rw [List.length_map]; exact h.len, fun r hr => by
  obtain ⟨q, hq, rfl⟩ := List.mem_map.1 (show r ∈ m.2.1.map turnR from hr)
  exact ⟨(h.rules q hq).text, (h.rules q hq).pairs.turn⟩⟩
end Groat
set_option linter.unusedVariables false
set_option linter.unusedSimpArgs false
namespace Groat
open Go Go.Ref
abbrev tSpec : Ty := .pair (.int .i64) (.pair (.int .i64) (.pair (.int .i64) (.pair (.int .i64) (.pair (.int .i64) .unit))))
abbrev tSchema : Ty := .pair (.int .i64) (.pair (.int .i64) (.pair (.sl 0 tSpec) .unit))
theorem wf_fields {s : Schema} (h : Wf tSchema s) : s.2.2.1.length ≤ maxLen := h.2.2.1.1
end Groat
set_option linter.unusedVariables false
set_option linter.unusedSimpArgs false
namespace Groat
open Go Go.Ref
abbrev tPair : Ty := .pair .str (.pair .str .unit)
abbrev tRule : Ty := .pair (.int .i64) (.pair (.int .i64) (.pair (.int .i64) (.pair .str (.pair (.sl 0 tPair) .unit))))
def small (n : Nat) (l : List Pair) : Bool := l.all fun p => !decide ((n : Int) < (p.1.size : Int)) && !decide ((n : Int) < (p.2.1.size : Int))
theorem small_sz {n : Nat} {l : List Pair} (hn : n ≤ 1200) (h : small n l = true) : ∀ p ∈ l, p.1.size ≤ 1099511627776 ∧ p.2.1.size ≤ 1099511627776 := fun p hp => by
  have := List.all_eq_true.1 h p hp
  simp only [Bool.and_eq_true, Bool.not_eq_true', decide_eq_false_iff_not] at this
  omega
def grR (t : Bool) : Option (Sum Bool Unit) := some (bif t then .inr () else .inl true)
theorem gr_run : ∀ (l : List Pair) (i : Int), runI (fun i (p : Pair) (s : Unit) K => bif (decide (1200 < ((p.1).size : Int))) then some (Sum.inl true) else (bif (decide (1200 < ((p.2.1).size : Int))) then some (Sum.inl true) else K s)) (fun _ => some (Sum.inr ())) l i () = grR (small 1200 l)
  | [], i => rfl
  | p :: r, i => by
    simp only [runI, small, List.all_cons]
    by_cases h1 : (1200 : Int) < (p.1.size : Int)
    · rw [decide_eq_true h1, decide_eq_true (show ((1200 : Nat) : Int) < (p.1.size : Int) from h1)]; rfl
    · rw [decide_eq_false h1, decide_eq_false (show ¬ ((1200 : Nat) : Int) < (p.1.size : Int) from h1)]
      by_cases h2 : (1200 : Int) < (p.2.1.size : Int)
      · rw [decide_eq_true h2, decide_eq_true (show ((1200 : Nat) : Int) < (p.2.1.size : Int) from h2)]; rfl
      · rw [decide_eq_false h2, decide_eq_false (show ¬ ((1200 : Nat) : Int) < (p.2.1.size : Int) from h2)]
        exact gr_run r (i + 1)
def greatR (r : Rule) : Bool := decide ((1200 : Int) < (r.2.2.2.1.size : Int)) || (decide ((300 : Int) < (r.2.2.2.2.1.length : Int)) || !small 1200 r.2.2.2.2.1)
theorem Great20_eq (r : Rule) (h : r.2.2.2.2.1.length ≤ maxLen) : groatref20_Great r = some (greatR r) := by
  unfold groatref20_Great groatref20_Great_s0 greatR
  cases decide ((1200 : Int) < (r.2.2.2.1.size : Int)) with
  | true => rfl
  | false =>
    cases decide ((300 : Int) < (r.2.2.2.2.1.length : Int)) with
    | true => rfl
    | false =>
      simp only [cond_false, Bool.false_or]
      have := loopJ pair0 r.2.2.2.2.1 h (fun i (p : Pair) (s : Unit) K => bif (decide (1200 < ((p.1).size : Int))) then some (Sum.inl true) else (bif (decide (1200 < ((p.2.1).size : Int))) then some (Sum.inl true) else K s)) (fun _ => some (Sum.inr ()))
        (fun k i s => groatref20_Great_l0 k i r) (fun k i s h0 h1 => by
          show groatref20_Great_l0 (k + 1) i r = _
          conv => lhs; unfold groatref20_Great_l0 groatref20_Great_s1
          rw [decide_eq_true h1, cond_true, within_int h0 h1, within_int h0 h1]
          rfl) (fun k s => by
          show groatref20_Great_l0 (k + 1) r.2.2.2.2.1.length r = _
          conv => lhs; unfold groatref20_Great_l0 groatref20_Great_s1
          rw [decide_eq_false (by omega), cond_false]) ()
      rw [this, gr_run]
      unfold grR
      cases small 1200 r.2.2.2.2.1 <;> rfl
theorem greatR_ok {r : Rule} (h : greatR r = false) : RuleOk r := by
  unfold greatR at h
  simp only [Bool.or_eq_false_iff, decide_eq_false_iff_not, Bool.not_eq_false'] at h
  obtain ⟨h1, h2, h3⟩ := h
  exact ⟨by omega, by omega, small_sz (by omega) h3⟩
end Groat
set_option linter.unusedVariables false
set_option linter.unusedSimpArgs false
namespace Groat
open Go Go.Ref
theorem awake20 : groatlaw20_awake = some true := by kernel_rfl
theorem wf_rule {r : Rule} (h : Wf tRule r) : r.2.2.2.2.1.length ≤ maxLen := h.2.2.2.2.1.1
theorem arr2 {l : List Schema} (h : Wf (.arr 2 tSchema) l) : ∃ a b, l = [a, b] ∧ Wf tSchema a ∧ Wf tSchema b := by
  obtain ⟨h1, h2⟩ := h
  match l, h1, h2 with
  | [a, b], _, h2 => exact ⟨a, b, rfl, h2 a (by simp), h2 b (by simp)⟩
theorem eq0 : ((decide ((val0 : Val).1 = 0)) && ((decide ((val0 : Val).2.1 = bs [])) && true)) = true := by simp
theorem tail20 (r : Rule) (a b : Schema) (t : ByteArray) (ht : t.size ≤ 1099511627776) (hr : RuleOk r) (hb : b.2.2.1.length ≤ maxLen) (hc : ruleC r a b = 0) (hk : Okay b) (hv : hasS a r.2.1 = true → valC (getS a r.2.1) t = 0) :
    (bif (!(decide ((applyR r b t).2 = (0 : Int)))) then (bif (decide (r.1 = (4 : Int))) then (bif (decide ((applyR r b t).2 = (5 : Int))) then (some ((decide ((applyR r b t).1.1 = (0 : Int))) && ((decide ((applyR r b t).1.2.1 = (bs []))) && true))) else (bif (decide (r.1 = (5 : Int))) then (bif (decide ((applyR r b t).2 = (15 : Int))) then (some ((decide ((applyR r b t).1.1 = (0 : Int))) && ((decide ((applyR r b t).1.2.1 = (bs []))) && true))) else (some false)) else (some false))) else (bif (decide (r.1 = (5 : Int))) then (bif (decide ((applyR r b t).2 = (15 : Int))) then (some ((decide ((applyR r b t).1.1 = (0 : Int))) && ((decide ((applyR r b t).1.2.1 = (bs []))) && true))) else (some false)) else (some false))) else (bif (decide (r.1 = (2 : Int))) then (some ((decide ((applyR r b t).1.1 = (0 : Int))) && ((decide ((applyR r b t).1.2.1 = (bs []))) && true))) else ((groatref13_Find b (applyR r b t).1.1).bind fun r17 => (bif (decide ((applyR r b t).1.1 = r.2.2.1)) then (bif (decide ((0 : Int) ≤ r17)) then (within r17 (List.length b.2.2.1) ((groatref11_Value (List.getD b.2.2.1 (r17).toNat ((0 : Int), (0 : Int), (0 : Int), (0 : Int), (0 : Int), ())) (applyR r b t).1.2.1).bind fun r18 => (some (decide (r18 = (0 : Int)))))) else (some false)) else (some false))))) = some true := by
  obtain ⟨v1, v2⟩ := apply_valid ht hr hc hk hv
  by_cases e : (applyR r b t).2 = 0
  · obtain ⟨w1, w2⟩ := v2 e
    rw [decide_eq_true e, Bool.not_true, cond_false]
    by_cases k2 : r.1 = 2
    · rw [decide_eq_true k2, cond_true, w1 k2, eq0]
    · obtain ⟨z1, z2, z3⟩ := w2 k2
      rw [decide_eq_false k2, cond_false, Find13_eq b _ hb, some_bind, decide_eq_true z1, cond_true, z1]
      rcases idx_cases b r.2.2.1 with ⟨i1, i2, i3⟩ | ⟨i1, i2, i3, i4⟩
      · rw [i2] at z2; cases z2
      · have hsz : (applyR r b t).1.2.1.size ≤ 1099511627776 := by
          have hf := specC_facts (okay_spec hk z2)
          rcases Nat.lt_or_ge 1099511627776 (applyR r b t).1.2.1.size with hh | hh
          · exfalso
            revert z3
            have hrt := hr.text
            have hrp := hr.pairs.sz
            have hk4 := (ruleC_zero hc).1
            unfold applyR at hh
            have hk : r.1 = 1 ∨ r.1 = 3 ∨ r.1 = 4 ∨ r.1 = 5 := by omega
            unfold applyR at e
            rcases hk with k | k | k | k
            · rw [decide_eq_true k, cond_true] at hh
              have : t.size ≤ 1099511627776 := ht
              have hh : 1099511627776 < t.size := hh
              omega
            · rw [decide_eq_false (by omega : ¬ r.1 = 1), decide_eq_false k2, decide_eq_true k, cond_false, cond_false, cond_true] at hh
              have hh : 1099511627776 < r.2.2.2.1.size := hh
              omega
            · rw [decide_eq_false (by omega : ¬ r.1 = 1), decide_eq_false k2, decide_eq_false (by omega : ¬ r.1 = 3), decide_eq_true k, cond_false, cond_false, cond_false, cond_true, z2, Bool.not_true, cond_false] at hh e
              cases hp : (padD t (getS b r.2.2.1).2.2.2.1).2 with
              | false => rw [hp] at e; cases e
              | true =>
                rw [hp, Bool.not_true, cond_false] at hh
                have hh : 1099511627776 < (padD t (getS b r.2.2.1).2.2.2.1).1.size := hh
                obtain ⟨p1, p2, p3, p4⟩ := padD_ok hp
                omega
            · rw [decide_eq_false (by omega : ¬ r.1 = 1), decide_eq_false k2, decide_eq_false (by omega : ¬ r.1 = 3), decide_eq_false (by omega : ¬ r.1 = 4), decide_eq_true k, cond_false, cond_false, cond_false, cond_false, cond_true] at hh e
              cases hp : (applyP r.2.2.2.2.1 t).2 with
              | false => rw [hp] at e; cases e
              | true =>
                rw [hp, Bool.not_true, cond_false] at hh
                have hh : 1099511627776 < (applyP r.2.2.2.2.1 t).1.size := hh
                obtain ⟨p, hm, _, hq⟩ := applyP_mem hp
                rw [hq] at hh
                have := (hrp p hm).2
                omega
          · exact hh
        rw [decide_eq_true i1, cond_true, within_int i1 i2, i4, Value11_eq _ _ hsz, some_bind, z3, decide_eq_true rfl]
  · obtain ⟨w1, w2⟩ := v1 e
    rw [decide_eq_false e, Bool.not_false, cond_true]
    rcases w1 with ⟨k, w⟩ | ⟨k, w⟩
    · rw [decide_eq_true k, cond_true, decide_eq_true w, cond_true, w2, eq0]
    · rw [decide_eq_false (by omega : ¬ r.1 = 4), cond_false, decide_eq_true k, cond_true, decide_eq_true w, cond_true, w2, eq0]
theorem pure_RuleValid (r : Rule) (l : List Schema) (t : ByteArray) (h : Wf tRule r) (hl : Wf (.arr 2 tSchema) l) (ht : Wf .str t) : groatlaw20_RuleValid r l t = some true := by
  obtain ⟨a, b, rfl, ha, hb⟩ := arr2 hl
  unfold groatlaw20_RuleValid groatlaw20_RuleValid_s0
  rw [within_int (by omega) (by omega), within_int (by omega) (by omega)]
  have e0 : (List.getD [a, b] ((0 : Int)).toNat ((0 : Int), (0 : Int), ([] : List (Int × Int × Int × Int × Int × Unit)), ())) = a := rfl
  have e1 : (List.getD [a, b] ((1 : Int)).toNat ((0 : Int), (0 : Int), ([] : List (Int × Int × Int × Int × Int × Unit)), ())) = b := rfl
  simp only [e0, e1]
  rw [awake20, some_bind, Bool.not_true, cond_false, Great20_eq r (wf_rule h), some_bind]
  cases hg : greatR r with
  | true => rfl
  | false =>
    rw [cond_false]
    by_cases h1 : (200 : Int) < (a.2.2.1.length : Int)
    · rw [decide_eq_true h1]; rfl
    rw [decide_eq_false h1, cond_false]
    by_cases h2 : (200 : Int) < (b.2.2.1.length : Int)
    · rw [decide_eq_true h2]; rfl
    rw [decide_eq_false h2, cond_false]
    by_cases h3 : (1200 : Int) < (t.size : Int)
    · rw [decide_eq_true h3]; rfl
    rw [decide_eq_false h3, cond_false, ruleCheck_eq r a b (greatR_ok hg) (wf_fields ha) (wf_fields hb), some_bind]
    by_cases hc : ruleC r a b = 0
    · rw [decide_eq_true hc, Bool.not_true, cond_false, Right13_eq a (wf_fields ha), some_bind]
      by_cases hka : (schemaC a).1 = 0
      · rw [decide_eq_true hka, Bool.not_true, cond_false, Right13_eq b (wf_fields hb), some_bind]
        by_cases hkb : (schemaC b).1 = 0
        · rw [decide_eq_true hkb, Bool.not_true, cond_false, Find13_eq a _ (wf_fields ha), some_bind]
          have ht' : t.size ≤ maxLen := ht
          have ap := ruleApply_eq r b t (wf_rule h) (wf_fields hb) ht'
          have okb := (schemaC_ok b).1 hkb
          rcases idx_cases a r.2.1 with ⟨i1, i2, i3⟩ | ⟨i1, i2, i3, i4⟩
          · rw [i1, decide_eq_false (by omega : ¬ (0 : Int) ≤ -1), cond_false, ap, some_bind]
            exact tail20 r a b t (by omega) (greatR_ok hg) (wf_fields hb) hc okb (fun e => by rw [i2] at e; cases e)
          · rw [decide_eq_true i1, cond_true, within_int i1 i2, i4, Value11_eq _ _ (by omega), some_bind]
            by_cases hv : valC (getS a r.2.1) t = 0
            · rw [decide_eq_true hv, Bool.not_true, cond_false, ap, some_bind]
              exact tail20 r a b t (by omega) (greatR_ok hg) (wf_fields hb) hc okb (fun _ => hv)
            · rw [decide_eq_false hv]; rfl
        · rw [decide_eq_false hkb]; rfl
      · rw [decide_eq_false hka]; rfl
    · rw [decide_eq_false hc]; rfl
end Groat
