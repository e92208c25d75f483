/- No condition. -/
import Derived.Test.YtkecopkmmcgciaaDoorK1
import Derived.Laws.RangeString
import Derived.Test.YtkecopkmmcgciaaDoorProg
set_option linter.unusedVariables false
set_option linter.unusedSimpArgs false
namespace Groat
open Go Go.Ref
theorem ofInt_nat (n a : Nat) (h : a < 2 ^ n) : (BitVec.ofInt n (a : Int)).toNat = a := by
  rw [BitVec.toNat_ofInt]
  have h2 : ((a : Int) % ((2 ^ n : Nat) : Int)) = ((a % 2 ^ n : Nat) : Int) := by rfl
  rw [h2, Int.toNat_natCast, Nat.mod_eq_of_lt h]
theorem ibits_or_nat {k : IntKind} {a b : Nat} (ha : a < 2 ^ k.bits) (hb : b < 2 ^ k.bits) : ibits .or k a b = k.wrap ((a ||| b : Nat) : Int) := by
  simp only [ibits, BitVec.toNat_or, ofInt_nat _ _ ha, ofInt_nat _ _ hb]
theorem or_bytes {x y : Int} (hx : isByte x) (hy : isByte y) : ibits .or .i64 (IntKind.i64.wrap (IntKind.i64.wrap x * 2 ^ min (8 : Int).toNat 64)) (IntKind.i64.wrap y) = x * 256 + y := by
  unfold isByte at hx hy
  obtain ⟨x, rfl⟩ := Int.eq_ofNat_of_zero_le hx.1
  obtain ⟨y, rfl⟩ := Int.eq_ofNat_of_zero_le hy.1
  rw [i64_nat (by omega), i64_nat (by omega)]
  have h1 : ((x : Int) * (2 : Int) ^ min (8 : Int).toNat 64) = ((x <<< 8 : Nat) : Int) := by
    rw [Nat.shiftLeft_eq]; rfl
  have h3 : x <<< 8 = x * 256 := by rw [Nat.shiftLeft_eq]
  rw [h1, i64_nat (by omega), ibits_or_nat (by simp only [IntKind.bits]; omega) (by simp only [IntKind.bits]; omega), ← Nat.shiftLeft_add_eq_or_of_lt (by omega : y < 2 ^ 8), h3, i64_nat (by omega)]
  omega
theorem getD_byte {b : List Int} (hb : ∀ x ∈ b, isByte x) (i : Nat) : isByte (b.getD i 0) := by
  rw [List.getD_eq_getElem?_getD]
  cases h : b[i]? with
  | none => exact ⟨by simp, by simp⟩
  | some x => exact hb x (List.mem_of_getElem? h)
end Groat
set_option linter.unusedVariables false
set_option linter.unusedSimpArgs false
namespace Groat
open Go Go.Ref
section
variable {α : Type} [DecidableEq α]
end
end Groat
set_option linter.unusedVariables false
set_option linter.unusedSimpArgs false
namespace Groat
open Go Go.Ref
end Groat
set_option linter.unusedVariables false
set_option linter.unusedSimpArgs false
namespace Groat
open Go Go.Ref
abbrev Spec := Int × Int × Int × Int × Int × Unit
abbrev Schema := Int × Int × List Spec × Unit
abbrev spec0 : Spec := (0, 0, 0, 0, 0, ())
theorem sets_eq (c : Int) : class_sets c = some (if c = 1 then 1 else if c = 2 then 2 else if c = 3 then 3 else if c = 4 then 7 else if c = 5 then 15 else if c = 6 then 15 else 0) := by
  unfold class_sets class_sets_s0
  simp only [bif_dec]
  repeat' split
  all_goals rfl
theorem Known_eq (c : Int) : class_Known c = some (decide (1 ≤ c ∧ c ≤ 6)) := by
  unfold class_Known class_Known_s0
  rw [sets_eq, some_bind]
  congr 1
  by_cases h1 : c = 1
  · subst h1; rfl
  by_cases h2 : c = 2
  · subst h2; rfl
  by_cases h3 : c = 3
  · subst h3; rfl
  by_cases h4 : c = 4
  · subst h4; rfl
  by_cases h5 : c = 5
  · subst h5; rfl
  by_cases h6 : c = 6
  · subst h6; rfl
  rw [if_neg h1, if_neg h2, if_neg h3, if_neg h4, if_neg h5, if_neg h6, decide_eq_false (p := 1 ≤ c ∧ c ≤ 6) (by omega)]
  rfl
theorem Most2 : prefix_Most 2 = some 99 := by kernel_rfl
theorem Most3 : prefix_Most 3 = some 999 := by kernel_rfl
def specC (s : Spec) : Int :=
  if s.1 < 2 ∨ 128 < s.1 then 1 else if s.2.1 < 1 ∨ 6 < s.2.1 then 6 else if s.2.2.1 < 1 ∨ 3 < s.2.2.1 then 3
  else if s.2.2.2.1 < 1 ∨ s.2.2.2.2.1 < s.2.2.2.1 ∨ (s.2.2.1 = 2 ∧ 99 < s.2.2.2.2.1) ∨ 999 < s.2.2.2.2.1 ∨ (s.2.2.1 = 1 ∧ ¬ s.2.2.2.1 = s.2.2.2.2.1) then 5
  else if s.2.2.1 = 1 ∧ s.2.1 = 6 then 13 else 0
theorem specCheck_eq (s : Spec) : spec_Check s = some (specC s) := by
  obtain ⟨no, c, f, mn, mx, u⟩ := s
  unfold spec_Check spec_Check_s0 specC
  simp only [Known_eq, some_bind]
  by_cases h1 : no < 2 ∨ 128 < no
  · rw [if_pos h1]
    rcases h1 with h | h
    · rw [decide_eq_true h]; rfl
    · rw [decide_eq_true h]; cases decide (no < 2) <;> rfl
  rw [if_neg h1, decide_eq_false (by omega), decide_eq_false (by omega)]
  by_cases h2 : c < 1 ∨ 6 < c
  · rw [if_pos h2, decide_eq_false (p := 1 ≤ c ∧ c ≤ 6) (by omega)]; rfl
  rw [if_neg h2, decide_eq_true (p := 1 ≤ c ∧ c ≤ 6) (by omega)]
  simp only [cond_false, Bool.not_true]
  by_cases h3 : f < 1 ∨ 3 < f
  · rw [if_pos h3]
    rcases h3 with h | h
    · rw [decide_eq_true h]; rfl
    · rw [decide_eq_true h]; cases decide (f < 1) <;> rfl
  rw [if_neg h3, decide_eq_false (by omega), decide_eq_false (by omega)]
  simp only [cond_false]
  by_cases h4 : mn < 1 ∨ mx < mn ∨ 999 < mx
  · rw [if_pos (by omega)]
    by_cases a : mn < 1
    · rw [decide_eq_true a]; rfl
    rw [decide_eq_false a]
    by_cases b : mx < mn
    · rw [decide_eq_true b]; rfl
    rw [decide_eq_false b, decide_eq_true (by omega)]; rfl
  rw [decide_eq_false (by omega), decide_eq_false (by omega), decide_eq_false (by omega)]
  simp only [cond_false]
  by_cases f1 : f = 1
  · rw [decide_eq_true f1]
    simp only [cond_true, Bool.not_true, cond_false]
    by_cases e : mn = mx
    · rw [decide_eq_true e, if_neg (by omega)]
      by_cases e6 : c = 6
      · rw [decide_eq_true e6, if_pos (by omega)]; rfl
      · rw [decide_eq_false e6, if_neg (by omega)]; rfl
    · rw [decide_eq_false e, if_pos (by omega)]; rfl
  · rw [decide_eq_false f1]
    simp only [cond_false, Bool.not_false, cond_true]
    by_cases f2 : f = 2
    · subst f2
      rw [Most2, some_bind]
      by_cases h : 99 < mx
      · rw [decide_eq_true h, if_pos (by omega)]; rfl
      · rw [decide_eq_false h, if_neg (by omega), if_neg (by omega)]; rfl
    · have f3 : f = 3 := by omega
      subst f3
      rw [Most3, some_bind, decide_eq_false (by omega), if_neg (by omega), if_neg (by omega)]; rfl
theorem specCheck11_eq (s : Spec) : groatref11_Check s = some (specC s) := by
  obtain ⟨no, c, f, mn, mx, u⟩ := s
  unfold groatref11_Check groatref11_Check_s0 specC
  simp only
  by_cases h1 : no < 2 ∨ 128 < no
  · rw [if_pos h1]
    rcases h1 with h | h
    · rw [decide_eq_true h]; rfl
    · rw [decide_eq_true h]; cases decide (no < 2) <;> rfl
  rw [if_neg h1, decide_eq_false (by omega), decide_eq_false (by omega)]
  by_cases h2 : c < 1 ∨ 6 < c
  · rw [if_pos h2]
    rcases h2 with h | h
    · rw [decide_eq_true h]; rfl
    · rw [decide_eq_true h]; cases decide (c < 1) <;> rfl
  rw [if_neg h2, decide_eq_false (by omega), decide_eq_false (by omega)]
  by_cases h3 : f < 1 ∨ 3 < f
  · rw [if_pos h3]
    rcases h3 with h | h
    · rw [decide_eq_true h]; rfl
    · rw [decide_eq_true h]; cases decide (f < 1) <;> rfl
  rw [if_neg h3, decide_eq_false (by omega), decide_eq_false (by omega)]
  simp only [cond_false]
  by_cases f1 : f = 1
  · rw [decide_eq_true f1, decide_eq_false (by omega : ¬ f = 2)]
    simp only [cond_true, cond_false]
    by_cases a : mn < 1
    · rw [decide_eq_true a, if_pos (by omega)]; rfl
    rw [decide_eq_false a]
    by_cases b : mx < mn
    · rw [decide_eq_true b, if_pos (by omega)]; rfl
    rw [decide_eq_false b]
    by_cases d : 999 < mx
    · rw [decide_eq_true d, if_pos (by omega)]; rfl
    rw [decide_eq_false d]
    by_cases e : mn = mx
    · rw [decide_eq_true e, if_neg (by omega)]
      by_cases e6 : c = 6
      · rw [decide_eq_true e6, if_pos (by omega)]; rfl
      · rw [decide_eq_false e6, if_neg (by omega)]; rfl
    · rw [decide_eq_false e, if_pos (by omega)]; rfl
  · rw [decide_eq_false f1]
    simp only [cond_false]
    by_cases f2 : f = 2
    · rw [decide_eq_true f2]
      simp only [cond_true]
      by_cases a : mn < 1
      · rw [decide_eq_true a, if_pos (by omega)]; rfl
      rw [decide_eq_false a]
      by_cases b : mx < mn
      · rw [decide_eq_true b, if_pos (by omega)]; rfl
      rw [decide_eq_false b]
      by_cases d : 99 < mx
      · rw [decide_eq_true d, if_pos (by omega)]; rfl
      rw [decide_eq_false d, if_neg (by omega), if_neg (by omega)]; rfl
    · rw [decide_eq_false f2]
      simp only [cond_false]
      by_cases a : mn < 1
      · rw [decide_eq_true a, if_pos (by omega)]; rfl
      rw [decide_eq_false a]
      by_cases b : mx < mn
      · rw [decide_eq_true b, if_pos (by omega)]; rfl
      rw [decide_eq_false b]
      by_cases d : 999 < mx
      · rw [decide_eq_true d, if_pos (by omega)]; rfl
      rw [decide_eq_false d, if_neg (by omega), if_neg (by omega)]; rfl
def specsC : List Spec → Int → Int → Int × Int
  | [], _, _ => (0, 0)
  | x :: r, i, last => if specC x ≠ 0 then (specC x, i) else if x.1 ≤ last then (11, i) else specsC r (i + 1) x.1
def schemaC (s : Schema) : Int × Int :=
  if ¬ (s.1 = 1 ∨ s.1 = 2) then (1, -1) else if s.2.1 < 0 ∨ 9 < s.2.1 then (7, -1) else specsC s.2.2.1 0 0
def excC (e : Sum (Int × Int) Unit) : Option (Int × Int) := Sum.elim (fun we => some (we.1, we.2)) (fun _ => some (0, 0)) e
theorem exc_specs (l : List Spec) : ∀ (i : Int) (last : Int), excC (if (specsC l i last).1 = 0 then .inr () else .inl (specsC l i last)) = some (specsC l i last) := by
  intro i last
  by_cases h : (specsC l i last).1 = 0
  · rw [if_pos h]
    have : specsC l i last = (0, 0) := by
      induction l generalizing i last with
      | nil => rfl
      | cons x r ih =>
        unfold specsC at h ⊢
        split
        · rename_i h1; rw [if_pos h1] at h; exact absurd h h1
        · rename_i h1
          rw [if_neg h1] at h
          split
          · rename_i h2; rw [if_pos h2] at h; cases h
          · rename_i h2; rw [if_neg h2] at h; exact ih _ _ h
    rw [this]; rfl
  · rw [if_neg h]; rfl
theorem check13_loop (s : Schema) (hl : s.2.2.1.length ≤ maxLen) : groatref13_Check_l0 FUEL 0 0 s = some (if (specsC s.2.2.1 0 0).1 = 0 then .inr () else .inl (specsC s.2.2.1 0 0)) := by
  have h := loopJ spec0 s.2.2.1 hl (fun i x (last : Int) K => if specC x ≠ 0 then some (.inl (specC x, i)) else if x.1 ≤ last then some (.inl (11, i)) else K x.1) (fun _ => some (.inr ())) (fun k i last => groatref13_Check_l0 k last i s)
    (fun k i last h0 h1 => by
      rw [groatref13_Check_l0, groatref13_Check_s1, decide_eq_true h1]
      simp only [cond_true, within_int h0 h1, specCheck11_eq, some_bind]
      by_cases hc : specC (s.2.2.1.getD i.toNat spec0) = 0
      · rw [decide_eq_true hc, if_neg (fun h => h hc)]
        simp only [Bool.not_true, cond_false]
        by_cases hn : (s.2.2.1.getD i.toNat spec0).1 ≤ last
        · rw [decide_eq_true hn, if_pos hn]; rfl
        · rw [decide_eq_false hn, if_neg hn]; rfl
      · rw [decide_eq_false hc, if_pos hc]; rfl)
    (fun k last => by rw [groatref13_Check_l0, groatref13_Check_s1, decide_eq_false (by omega)]; rfl) 0
  rw [h]
  clear h hl
  generalize s.2.2.1 = l
  suffices ∀ (i last : Int), runI (fun i (x : Spec) (last : Int) K => if specC x ≠ 0 then some (Sum.inl (specC x, i)) else if x.1 ≤ last then some (.inl (11, i)) else K x.1) (fun _ => some (.inr ())) l i last = some (if (specsC l i last).1 = 0 then (.inr () : Sum (Int × Int) Unit) else .inl (specsC l i last)) from this 0 0
  induction l with
  | nil => intro i last; rfl
  | cons x r ih =>
    intro i last
    rw [runI, specsC]
    by_cases hc : specC x ≠ 0
    · rw [if_pos hc, if_pos hc, if_neg hc]
    · rw [if_neg hc, if_neg hc]
      by_cases hn : x.1 ≤ last
      · rw [if_pos hn, if_pos hn]; rfl
      · rw [if_neg hn, if_neg hn]; exact ih _ _
theorem Check13_eq (s : Schema) (hl : s.2.2.1.length ≤ maxLen) : groatref13_Check s = some (schemaC s) := by
  unfold groatref13_Check groatref13_Check_s0 schemaC
  have hx := exc_specs s.2.2.1 0 0
  have hloop : (groatref13_Check_l0 FUEL 0 0 s).bind (fun e => Sum.elim (fun (we : Int × Int) => groatref13_Check_s2 we.1 we.2 fun a0 a1 => some (a0, a1)) (fun (we : Unit) => groatref13_Check_s3 fun a0 a1 => some (a0, a1)) e) = some (specsC s.2.2.1 0 0) := by
    rw [check13_loop s hl, some_bind]; exact hx
  dsimp only
  rw [hloop]
  by_cases h1 : s.1 = 1
  · rw [decide_eq_true h1, if_neg (by omega)]
    by_cases h2 : s.2.1 < 0
    · rw [decide_eq_true h2, if_pos (.inl h2)]; rfl
    · rw [decide_eq_false h2]
      by_cases h3 : 9 < s.2.1
      · rw [decide_eq_true h3, if_pos (.inr h3)]; rfl
      · rw [decide_eq_false h3, if_neg (by omega)]; rfl
  · rw [decide_eq_false h1]
    by_cases h0 : s.1 = 2
    · rw [decide_eq_true h0, if_neg (by omega)]
      by_cases h2 : s.2.1 < 0
      · rw [decide_eq_true h2, if_pos (.inl h2)]; rfl
      · rw [decide_eq_false h2]
        by_cases h3 : 9 < s.2.1
        · rw [decide_eq_true h3, if_pos (.inr h3)]; rfl
        · rw [decide_eq_false h3, if_neg (by omega)]; rfl
    · rw [decide_eq_false h0, if_pos (by omega)]; rfl
def findS (l : List Spec) (no : Int) : Option Spec := l.find? fun x => decide (x.1 = no)
def idxS : List Spec → Int → Int → Int
  | [], _, _ => -1
  | x :: r, no, i => if x.1 = no then i else idxS r no (i + 1)
theorem Find_eq (s : Schema) (no : Int) (hl : s.2.2.1.length ≤ maxLen) : schema_Find s no = some (match findS s.2.2.1 no with | some x => (x, true) | none => (spec0, false)) := by
  unfold schema_Find schema_Find_s0 findS
  dsimp only
  have h := loopI spec0 s.2.2.1 hl (fun i x (_ : Unit) K => bif decide (x.1 = no) then some (Sum.inl (true, x)) else K ()) (fun _ => some (.inr spec0)) (fun k i _ => schema_Find_l0 k no s.2.2.1 (s.2.2.1.length : Int) i spec0) (fun k i _ => rfl) ()
  rw [h, ]
  clear h hl
  generalize (0 : Int) = i
  generalize s.2.2.1 = l
  induction l generalizing i with
  | nil => rfl
  | cons x r ih =>
    rw [runI, List.find?_cons]
    cases hx : decide (x.1 = no) with
    | true => rfl
    | false => exact ih (i + 1)
theorem idxS_range (l : List Spec) (no : Int) : ∀ i : Int, 0 ≤ i → (idxS l no i = -1 ∧ findS l no = none) ∨ (i ≤ idxS l no i ∧ idxS l no i < i + l.length ∧ ∃ x, findS l no = some x ∧ l.getD (idxS l no i - i).toNat spec0 = x) := by
  induction l with
  | nil => intro i hi; left; exact ⟨rfl, rfl⟩
  | cons x r ih =>
    intro i hi
    unfold idxS findS
    by_cases h : x.1 = no
    · right
      rw [if_pos h, List.find?_cons, decide_eq_true h]
      refine ⟨by omega, by simp; omega, x, rfl, by simp⟩
    · rw [if_neg h, List.find?_cons, decide_eq_false h]
      rcases ih (i + 1) (by omega) with ⟨h1, h2⟩ | ⟨h1, h2, y, h3, h4⟩
      · left; exact ⟨h1, h2⟩
      · right
        refine ⟨by omega, by simp; omega, y, h3, ?_⟩
        have : (idxS r no (i + 1) - i).toNat = (idxS r no (i + 1) - (i + 1)).toNat + 1 := by omega
        rw [this]
        simpa using h4
theorem Find13_eq (s : Schema) (no : Int) (hl : s.2.2.1.length ≤ maxLen) : groatref13_Find s no = some (idxS s.2.2.1 no 0) := by
  unfold groatref13_Find groatref13_Find_s0
  dsimp only
  have h := loopI spec0 s.2.2.1 hl (fun i x (_ : Unit) K => bif decide (x.1 = no) then some (Sum.inl i) else K ()) (fun _ => some (.inr ())) (fun k i _ => groatref13_Find_l0 k no i s) (fun k i _ => rfl) ()
  rw [h]
  clear h hl
  generalize (0 : Int) = i
  generalize s.2.2.1 = l
  induction l generalizing i with
  | nil => rfl
  | cons x r ih =>
    rw [runI, idxS]
    by_cases hx : x.1 = no
    · rw [decide_eq_true hx, if_pos hx]; rfl
    · rw [decide_eq_false hx, if_neg hx]; exact ih (i + 1)
theorem schema_ext {a b : Schema} : a = b ↔ a.1 = b.1 ∧ a.2.1 = b.2.1 ∧ a.2.2.1 = b.2.2.1 := by
  obtain ⟨x, y, z, u⟩ := a
  obtain ⟨x', y', z', u'⟩ := b
  simp
instance : DecidableEq Schema := fun a b => decidable_of_iff _ schema_ext.symm
def OkSpecs (l : List Spec) (last : Int) : Prop := (∀ x ∈ l, specC x = 0) ∧ (l.Pairwise fun x y => x.1 < y.1) ∧ ∀ x ∈ l, last < x.1
theorem specsC_ok (l : List Spec) : ∀ (i last : Int), (specsC l i last).1 = 0 ↔ OkSpecs l last := by
  induction l with
  | nil => intro i last; simp [specsC, OkSpecs]
  | cons x r ih =>
    intro i last
    unfold specsC
    by_cases hc : specC x = 0
    · rw [if_neg (fun h => h hc)]
      by_cases hn : x.1 ≤ last
      · rw [if_pos hn]
        constructor
        · intro h; cases h
        · intro ⟨_, _, h3⟩; have := h3 x (by simp); omega
      · rw [if_neg hn, ih]
        constructor
        · intro ⟨h1, h2, h3⟩
          refine ⟨fun y hy => ?_, List.pairwise_cons.2 ⟨h3, h2⟩, fun y hy => ?_⟩
          · rcases List.mem_cons.1 hy with rfl | hy
            · exact hc
            · exact h1 y hy
          · rcases List.mem_cons.1 hy with rfl | hy
            · omega
            · have := h3 y hy; omega
        · intro ⟨h1, h2, h3⟩
          obtain ⟨h4, h5⟩ := List.pairwise_cons.1 h2
          exact ⟨fun y hy => h1 y (by simp [hy]), h5, h4⟩
    · rw [if_pos hc]
      constructor
      · intro h; exact absurd h hc
      · intro ⟨h1, _, _⟩; exact absurd (h1 x (by simp)) hc
def Okay (s : Schema) : Prop := (s.1 = 1 ∨ s.1 = 2) ∧ 0 ≤ s.2.1 ∧ s.2.1 ≤ 9 ∧ OkSpecs s.2.2.1 0
theorem schemaC_ok (s : Schema) : (schemaC s).1 = 0 ↔ Okay s := by
  unfold schemaC Okay
  by_cases h1 : s.1 = 1 ∨ s.1 = 2
  · rw [if_neg (fun h => h h1)]
    by_cases h2 : s.2.1 < 0 ∨ 9 < s.2.1
    · rw [if_pos h2]
      constructor
      · intro h; cases h
      · intro ⟨_, a, b, _⟩; omega
    · rw [if_neg h2, specsC_ok]
      constructor
      · intro h; exact ⟨h1, by omega, by omega, h⟩
      · intro ⟨_, _, _, h⟩; exact h
  · rw [if_pos h1]
    constructor
    · intro h; cases h
    · intro ⟨a, _⟩; exact absurd a h1
theorem OkSpecs.filter {l : List Spec} {last : Int} (h : OkSpecs l last) (p : Spec → Bool) : OkSpecs (l.filter p) last :=
  ⟨fun x hx => h.1 x (List.mem_filter.1 hx).1, h.2.1.filter p, fun x hx => h.2.2 x (List.mem_filter.1 hx).1⟩
theorem Right13_eq (s : Schema) (hl : s.2.2.1.length ≤ maxLen) : groatref13_Right s = some (decide ((schemaC s).1 = 0)) := by
  unfold groatref13_Right groatref13_Right_s0
  rw [Check13_eq s hl, some_bind]
end Groat
set_option linter.unusedVariables false
set_option linter.unusedSimpArgs false
namespace Groat
open Go Go.Ref
abbrev Pair := ByteArray × ByteArray × Unit
def pair0 : Pair := (bs [], bs [], ())
instance memDec (a : ByteArray) (l : List ByteArray) : Decidable (a ∈ l) := decidable_of_iff (l.any (fun x => decide (a = x)) = true) (by
  rw [List.any_eq_true]
  exact ⟨fun ⟨x, hx, h⟩ => of_decide_eq_true h ▸ hx, fun h => ⟨a, h, decide_eq_true rfl⟩⟩)
def exI (r : Int) : Sum Int Unit := if r = -1 then .inr () else .inl r
theorem exI_nat (j : Nat) : exI (j : Int) = .inl (j : Int) := if_neg (by omega)
def seenM {K : Type} (l : List K) : List (K × Bool) := l.map fun k => (k, true)
theorem mget_seen {K : Type} [DecidableEq K] (eq : K → K → Bool) (heq : ∀ x y, eq x y = decide (x = y)) (k : K) : ∀ l : List K, mget eq false (seenM l) k = true ↔ k ∈ l
  | [] => by simp [seenM, mget]
  | x :: l => by
    simp only [seenM, List.map_cons, mget, heq]
    by_cases h : k = x
    · rw [decide_eq_true h, cond_true]; exact ⟨fun _ => by rw [h]; exact List.mem_cons_self, fun _ => rfl⟩
    · rw [decide_eq_false h, cond_false]
      have := mget_seen eq heq k l
      simp only [seenM] at this
      rw [this]
      exact ⟨fun h' => List.mem_cons_of_mem _ h', fun h' => (List.mem_cons.1 h').resolve_left h⟩
theorem mhas_seen {K : Type} [DecidableEq K] (eq : K → K → Bool) (heq : ∀ x y, eq x y = decide (x = y)) (k : K) : ∀ l : List K, mhas eq (seenM l) k = true ↔ k ∈ l
  | [] => by simp [seenM, mhas]
  | x :: l => by
    simp only [seenM, List.map_cons, mhas, heq]
    by_cases h : k = x
    · rw [decide_eq_true h, cond_true]; exact ⟨fun _ => by rw [h]; exact List.mem_cons_self, fun _ => rfl⟩
    · rw [decide_eq_false h, cond_false]
      have := mhas_seen eq heq k l
      simp only [seenM] at this
      rw [this]
      exact ⟨fun h' => List.mem_cons_of_mem _ h', fun h' => (List.mem_cons.1 h').resolve_left h⟩
theorem not_true' {b : Bool} {p : Prop} (h : b = true ↔ p) (hp : ¬ p) : b = false := by cases b with
  | false => rfl
  | true => exact absurd (h.1 rfl) hp
theorem seenM_append {K : Type} (l : List K) (k : K) : seenM l ++ [(k, true)] = seenM (l ++ [k]) := by simp [seenM]
def dupP : List ByteArray → List Pair → Int → Option Int
  | _, [], _ => none
  | seen, p :: r, i => if p.1 ∈ seen then some i else dupP (seen ++ [p.1]) r (i + 1)
def tableC (l : List Pair) : Int × Int := if 256 < l.length then (5, 256) else match dupP [] l 0 with
  | some i => (10, i)
  | none => (0, 0)
def dupR (o : Option Int) : Option (Sum (Int × Int) Unit) := some (match o with
  | some i => .inl (10, i)
  | none => .inr ())
theorem codesCheck_run (l : List Pair) : ∀ (i : Int) (seen : List ByteArray),
    runI (fun i (x : Pair) (s : List (ByteArray × Bool)) K => bif mget (eqK .str) false s x.1 then some (Sum.inl ((10 : Int), i)) else bif mhas (eqK .str) s x.1 then none else K (s ++ [(x.1, true)])) (fun _ => some (Sum.inr ())) l i (seenM seen) = dupR (dupP seen l i) := by
  induction l with
  | nil => intro i seen; rfl
  | cons p r ih =>
    intro i seen
    simp only [runI, dupP]
    have e1 := mget_seen (eqK .str) (fun _ _ => rfl) p.1 seen
    have e2 := mhas_seen (eqK .str) (fun _ _ => rfl) p.1 seen
    by_cases h : p.1 ∈ seen
    · rw [e1.2 h, if_pos h]; rfl
    · rw [not_true' e1 h, not_true' e2 h, if_neg h, cond_false, cond_false, seenM_append]
      exact ih (i + 1) (seen ++ [p.1])
theorem codesCheck_eq (l : List Pair) (h : l.length ≤ maxLen) : codes_Check l = some (tableC l) := by
  unfold codes_Check codes_Check_s0 tableC
  dsimp only
  by_cases hl : 256 < l.length
  · rw [decide_eq_true (by omega), cond_true, if_pos hl]
  · rw [decide_eq_false (by omega), cond_false, if_neg hl]
    have := loopI pair0 l h (fun i (x : Pair) (s : List (ByteArray × Bool)) K => bif mget (eqK .str) false s x.1 then some (Sum.inl ((10 : Int), i)) else bif mhas (eqK .str) s x.1 then none else K (s ++ [(x.1, true)])) (fun _ => some (Sum.inr ()))
      (fun k i s => codes_Check_l0 k l (l.length : Int) i s) (fun k i s => rfl) []
    rw [this]
    have h2 := codesCheck_run l 0 []
    rw [show seenM ([] : List ByteArray) = [] from rfl] at h2
    rw [h2]
    unfold dupR
    cases dupP [] l 0 <;> rfl
def applyP (l : List Pair) (f : ByteArray) : ByteArray × Bool := match l.find? fun p => decide (p.1 = f) with
  | some p => (p.2.1, true)
  | none => (bs [], false)
theorem codesApply_run (f : ByteArray) (l : List Pair) : ∀ (i : Int), runI (fun i (x : Pair) (s : Unit) K => bif decide (x.1 = f) then some (Sum.inl (x.2.1, true)) else K s) (fun _ => some (Sum.inr ())) l i () = some (match l.find? fun p => decide (p.1 = f) with
    | some p => .inl (p.2.1, true)
    | none => .inr ()) := by
  induction l with
  | nil => intro i; rfl
  | cons p r ih =>
    intro i
    simp only [runI, List.find?_cons]
    by_cases h : p.1 = f
    · rw [decide_eq_true h]; rfl
    · rw [decide_eq_false h, cond_false]; exact ih (i + 1)
theorem codesApply_eq (l : List Pair) (f : ByteArray) (h : l.length ≤ maxLen) : codes_Apply l f = some (applyP l f) := by
  unfold codes_Apply codes_Apply_s0 applyP
  dsimp only
  have := loopI pair0 l h (fun i (x : Pair) (s : Unit) K => bif decide (x.1 = f) then some (Sum.inl (x.2.1, true)) else K s) (fun _ => some (Sum.inr ()))
    (fun k i s => codes_Apply_l0 k f l (l.length : Int) i) (fun k i s => rfl) ()
  rw [this, codesApply_run]
  cases l.find? fun p => decide (p.1 = f) <;> rfl
def turnP (l : List Pair) : List Pair := l.map fun p => (p.2.1, p.1, ())
theorem turnP_len (l : List Pair) : (turnP l).length = l.length := by simp [turnP]
end Groat
set_option linter.unusedVariables false
set_option linter.unusedSimpArgs false
namespace Groat
open Go Go.Ref
def isC (c b : Int) : Bool :=
  if c = 1 then decide (48 ≤ b ∧ b ≤ 57)
  else if c = 2 then decide (65 ≤ b ∧ b ≤ 90 ∨ 97 ≤ b ∧ b ≤ 122)
  else if c = 3 then decide (48 ≤ b ∧ b ≤ 57 ∨ 65 ≤ b ∧ b ≤ 90 ∨ 97 ≤ b ∧ b ≤ 122)
  else if c = 4 then decide (32 ≤ b ∧ b ≤ 126)
  else decide (c = 5 ∨ c = 6)
def setsV (c : Int) : Int := if c = 1 then 1 else if c = 2 then 2 else if c = 3 then 3 else if c = 4 then 7 else if c = 5 then 15 else if c = 6 then 15 else 0
theorem is_fin : ∀ c : Fin 7, ∀ b : Fin 256, groatref04_Is (c.1 : Int) (b.1 : Int) = some (isC (c.1 : Int) (b.1 : Int)) := by decide +kernel
theorem of_fin : ∀ c : Fin 7, ∀ b : Fin 256, (class_of (b.1 : Int)).map (fun r => decide (ibits .and .i64 (setsV (c.1 : Int)) r = 0)) = some (!isC (c.1 : Int) (b.1 : Int)) := by decide +kernel
theorem cls_cases (c : Int) : (∃ k : Fin 7, c = (k.1 : Int)) ∨ (c ≠ 1 ∧ c ≠ 2 ∧ c ≠ 3 ∧ c ≠ 4 ∧ c ≠ 5 ∧ c ≠ 6) := by
  by_cases h : 0 ≤ c ∧ c ≤ 6
  · exact .inl ⟨⟨c.toNat, by omega⟩, by simp; omega⟩
  · exact .inr ⟨by omega, by omega, by omega, by omega, by omega, by omega⟩
theorem byte_fin {b : Int} (h : isByte b) : ∃ k : Fin 256, b = (k.1 : Int) := by
  unfold isByte at h
  exact ⟨⟨b.toNat, by omega⟩, by simp; omega⟩
theorem Is04_eq (c : Int) {b : Int} (hb : isByte b) : groatref04_Is c b = some (isC c b) := by
  obtain ⟨b, rfl⟩ := byte_fin hb
  rcases cls_cases c with ⟨k, rfl⟩ | ⟨h1, h2, h3, h4, h5, h6⟩
  · exact is_fin k b
  · unfold groatref04_Is groatref04_Is_s0 isC
    simp only [h1, h2, h3, h4, h5, h6, decide_false, cond_false, if_false, or_self, Bool.cond_self]
theorem ofSets_eq (c : Int) {b : Int} (hb : isByte b) : ∃ r, class_of b = some r ∧ decide (ibits .and .i64 (setsV c) r = 0) = !isC c b := by
  obtain ⟨b, rfl⟩ := byte_fin hb
  rcases cls_cases c with ⟨k, rfl⟩ | ⟨h1, h2, h3, h4, h5, h6⟩
  · have := of_fin k b
    cases hc : class_of (b.1 : Int) with
    | none => rw [hc] at this; cases this
    | some r => rw [hc] at this; exact ⟨r, rfl, by simpa using this⟩
  · have := of_fin 0 b
    cases hc : class_of (b.1 : Int) with
    | none => rw [hc] at this; cases this
    | some r =>
      rw [hc] at this
      refine ⟨r, rfl, ?_⟩
      have e1 : setsV c = setsV ((0 : Fin 7).1 : Int) := by unfold setsV; simp [h1, h2, h3, h4, h5, h6]
      have e2 : isC c (b.1 : Int) = isC ((0 : Fin 7).1 : Int) (b.1 : Int) := by unfold isC; simp [h1, h2, h3, h4, h5, h6]
      rw [e1, e2]
      simpa using this
def firstC (c : Int) : List Int → Int → Int
  | [], _ => -1
  | b :: r, i => if isC c b = true then firstC c r (i + 1) else i
theorem firstC_none (c : Int) : ∀ (l : List Int) (i : Int), 0 ≤ i → (0 ≤ firstC c l i ↔ ¬ l.all (isC c) = true)
  | [], i, _ => by simp [firstC]
  | b :: r, i, hi => by
    simp only [firstC, List.all_cons]
    cases h : isC c b with
    | true => rw [if_pos rfl, firstC_none c r (i + 1) (by omega), Bool.true_and]
    | false => simp [hi]
theorem first_loop (c : Int) (s : ByteArray) (hs : s.size ≤ 9223372036854775807) : ∀ (n j k : Nat), j + n = s.size → n < k → class_First_l0 k s (setsV c) (j : Int) = some (exI (firstC c ((bl s).drop j) j))
  | n, j, 0, _, hk => by omega
  | 0, j, k + 1, hj, hk => by
    unfold class_First_l0 class_First_s1
    rw [decide_eq_false (by omega), List.drop_eq_nil_of_le (by rw [bl_length]; omega)]; rfl
  | n + 1, j, k + 1, hj, hk => by
    have hlt : j < s.size := by omega
    have hl : j < (bl s).length := by rw [bl_length]; exact hlt
    have hb : isByte ((bl s)[j]) := bl_byte (List.getElem_mem hl)
    have hg : (bl s).getD j 0 = (bl s)[j] := by rw [List.getD_eq_getElem?_getD, List.getElem?_eq_getElem hl]; rfl
    unfold class_First_l0 class_First_s1
    rw [decide_eq_true (by omega), cond_true, within_nat_lt hlt, Int.toNat_natCast, bl_byteAt, hg, List.drop_eq_getElem_cons hl]
    obtain ⟨r, h1, h2⟩ := ofSets_eq c hb
    rw [h1, Option.bind_some, h2]
    simp only [firstC]
    cases h : isC c (bl s)[j] with
    | true => rw [if_pos rfl, Bool.not_true, cond_false, i64_succ (by omega), first_loop c s hs n (j + 1) k (by omega) (by omega)]; rfl
    | false => rw [if_neg (by simp), Bool.not_false, cond_true, exI_nat]
theorem First_eq (c : Int) (s : ByteArray) (h : s.size ≤ maxLen) : class_First c s = some (firstC c (bl s) 0) := by
  rw [maxLen_eq] at h
  unfold class_First class_First_s0
  dsimp only
  rw [sets_eq, Option.bind_some]
  have := first_loop c s h s.size 0 FUEL (by omega) (by rw [fuel_eq]; omega)
  rw [show ((0 : Nat) : Int) = (0 : Int) from rfl, List.drop_zero] at this
  rw [show (if c = 1 then 1 else if c = 2 then 2 else if c = 3 then 3 else if c = 4 then 7 else if c = 5 then 15 else if c = 6 then 15 else 0 : Int) = setsV c from rfl, this, Option.bind_some]
  unfold exI
  by_cases h : firstC c (bl s) 0 = -1
  · rw [if_pos h, h]; rfl
  · rw [if_neg h]; rfl
theorem first04_loop (c : Int) (s : ByteArray) (hs : s.size ≤ 9223372036854775807) : ∀ (n j k : Nat), j + n = s.size → n < k → groatref04_First_l0 k c s (j : Int) = some (exI (firstC c ((bl s).drop j) j))
  | n, j, 0, _, hk => by omega
  | 0, j, k + 1, hj, hk => by
    unfold groatref04_First_l0 groatref04_First_s1
    rw [decide_eq_false (by omega), List.drop_eq_nil_of_le (by rw [bl_length]; omega)]; rfl
  | n + 1, j, k + 1, hj, hk => by
    have hlt : j < s.size := by omega
    have hl : j < (bl s).length := by rw [bl_length]; exact hlt
    have hb : isByte ((bl s)[j]) := bl_byte (List.getElem_mem hl)
    have hg : (bl s).getD j 0 = (bl s)[j] := by rw [List.getD_eq_getElem?_getD, List.getElem?_eq_getElem hl]; rfl
    unfold groatref04_First_l0 groatref04_First_s1
    rw [decide_eq_true (by omega), cond_true, within_nat_lt hlt, Int.toNat_natCast, bl_byteAt, hg, List.drop_eq_getElem_cons hl, Is04_eq c hb, Option.bind_some]
    simp only [firstC]
    cases h : isC c (bl s)[j] with
    | true => rw [if_pos rfl, Bool.not_true, cond_false, i64_succ (by omega), first04_loop c s hs n (j + 1) k (by omega) (by omega)]; rfl
    | false => rw [if_neg (by simp), Bool.not_false, cond_true, exI_nat]
theorem First04_eq (c : Int) (s : ByteArray) (h : s.size ≤ maxLen) : groatref04_First c s = some (firstC c (bl s) 0) := by
  rw [maxLen_eq] at h
  unfold groatref04_First groatref04_First_s0
  dsimp only
  have := first04_loop c s h s.size 0 FUEL (by omega) (by rw [fuel_eq]; omega)
  rw [show ((0 : Nat) : Int) = (0 : Int) from rfl, List.drop_zero] at this
  rw [this, Option.bind_some]
  unfold exI
  by_cases h : firstC c (bl s) 0 = -1
  · rw [if_pos h, h]; rfl
  · rw [if_neg h]; rfl
def widerC (a b : Int) : Bool := decide (1 ≤ a ∧ a ≤ 6 ∧ 1 ≤ b ∧ b ≤ 6) && decide (ibits .andNot .i64 (setsV b) (setsV a) = 0)
theorem Wider_eq (a b : Int) : class_Wider a b = some (widerC a b) := by
  unfold class_Wider class_Wider_s0 widerC
  rw [Known_eq, Option.bind_some]
  by_cases ha : 1 ≤ a ∧ a ≤ 6
  · rw [decide_eq_true ha, cond_true, Known_eq, Option.bind_some]
    by_cases hb : 1 ≤ b ∧ b ≤ 6
    · rw [decide_eq_true hb, cond_true, sets_eq, Option.bind_some, sets_eq, Option.bind_some, decide_eq_true (show 1 ≤ a ∧ a ≤ 6 ∧ 1 ≤ b ∧ b ≤ 6 from ⟨ha.1, ha.2, hb.1, hb.2⟩), Bool.true_and]
      rfl
    · rw [decide_eq_false hb, cond_false, decide_eq_false (fun h => hb h.2.2)]; rfl
  · rw [decide_eq_false ha, cond_false, decide_eq_false (fun h => ha ⟨h.1, h.2.1⟩)]; rfl
theorem wider_fin : ∀ a b : Fin 7, groatref04_Wider (a.1 : Int) (b.1 : Int) = some (widerC (a.1 : Int) (b.1 : Int)) := by decide +kernel
theorem in_fin {c : Int} (h : 1 ≤ c ∧ c ≤ 6) : ∃ k : Fin 7, c = (k.1 : Int) := ⟨⟨c.toNat, by omega⟩, by simp; omega⟩
theorem Wider04_eq (a b : Int) : groatref04_Wider a b = some (widerC a b) := by
  by_cases h : (1 ≤ a ∧ a ≤ 6) ∧ (1 ≤ b ∧ b ≤ 6)
  · obtain ⟨k, rfl⟩ := in_fin h.1
    obtain ⟨m, rfl⟩ := in_fin h.2
    exact wider_fin k m
  · unfold groatref04_Wider groatref04_Wider_s0 widerC
    rw [show decide (1 ≤ a ∧ a ≤ 6 ∧ 1 ≤ b ∧ b ≤ 6) = false from decide_eq_false (fun h' => h ⟨⟨h'.1, h'.2.1⟩, h'.2.2⟩), Bool.false_and]
    by_cases h1 : a < 1
    · rw [decide_eq_true h1]; rfl
    · by_cases h2 : (6 : Int) < a
      · rw [decide_eq_false h1, decide_eq_true h2]; rfl
      · by_cases h3 : b < 1
        · rw [decide_eq_false h1, decide_eq_false h2, decide_eq_true h3]; rfl
        · have h4 : (6 : Int) < b := by omega
          rw [decide_eq_false h1, decide_eq_false h2, decide_eq_false h3, decide_eq_true h4]; rfl
end Groat
set_option linter.unusedVariables false
set_option linter.unusedSimpArgs false
namespace Groat
open Go Go.Ref
theorem byteAt_byte (s : ByteArray) (i : Nat) : isByte (byteAt s i) := by
  rw [bl_byteAt]
  exact getD_byte (fun x hx => bl_byte hx) i
theorem first_fin : ∀ b : Fin 256, tag_first (b.1 : Int) = some (decide (groatref08_First (b.1 : Int) ≠ some 0)) := by decide +kernel
theorem first2_fin : ∀ b : Fin 256, groatref08_First (b.1 : Int) = some 0 ∨ (groatref08_First (b.1 : Int) = some 1 ∧ decide (ibits .and .i64 (b.1 : Int) 31 = 31) = false) ∨ (groatref08_First (b.1 : Int) = some 2 ∧ decide (ibits .and .i64 (b.1 : Int) 31 = 31) = true) := by decide +kernel
theorem and255 (x y : Nat) (hx : x < 256) (hy : y < 256) : ibits .and .i64 (((x : Int) * 256) + (y : Int)) 255 = (y : Int) := by
  have : ((x : Int) * 256 + (y : Int)) = ((x * 256 + y : Nat) : Int) := by omega
  rw [this, show (255 : Int) = ((255 : Nat) : Int) from rfl, and_i64 (by omega) (by omega)]
  congr 1
  rw [show (255 : Nat) = 2 ^ 8 - 1 from rfl, Nat.and_two_pow_sub_one_eq_mod]
  omega
theorem shr8 (x y : Nat) (hx : x < 256) (hy : y < 256) : Int.fdiv ((x : Int) * 256 + (y : Int)) (2 ^ min ((8 : Int)).toNat 64) = (x : Int) := by
  have : ((x : Int) * 256 + (y : Int)) = ((x * 256 + y : Nat) : Int) := by omega
  rw [this, show (8 : Int) = ((8 : Nat) : Int) from rfl, fdiv_nat _ 8 (by omega)]
  congr 1
  omega
theorem right_two (x : Fin 256) (hx : groatref08_First (x.1 : Int) = some 2) (y : Fin 256) : tag_Right ((x.1 : Int) * 256 + (y.1 : Int)) = some (decide (1 ≤ (y.1 : Int) ∧ (y.1 : Int) ≤ 127)) := by
  have hx0 : x.1 ≠ 0 := fun e => by
    have : x = 0 := Fin.ext e
    subst this
    revert hx
    decide +kernel
  have h31 : decide (ibits .and .i64 (x.1 : Int) 31 = 31) = true := by
    rcases first2_fin x with h | ⟨h, _⟩ | ⟨_, h⟩
    · rw [h] at hx; cases hx
    · rw [h] at hx; cases hx
    · exact h
  have hf : tag_first (x.1 : Int) = some true := by rw [first_fin x, hx]; rfl
  unfold tag_Right tag_Right_s0
  rw [shr8 x.1 y.1 x.2 y.2, and255 x.1 y.1 x.2 y.2, decide_eq_false (by have := x.2; have := y.2; omega), cond_false, decide_eq_true (by have := x.2; have := y.2; omega), cond_true, hf, Option.bind_some, cond_true, h31, cond_true]
  by_cases h1 : (1 : Int) ≤ (y.1 : Int)
  · rw [decide_eq_true h1, cond_true]
    congr 1
    exact decide_eq_decide.2 ⟨fun h => ⟨h1, h⟩, fun h => h.2⟩
  · rw [decide_eq_false h1, cond_false]
    congr 1
    exact (decide_eq_false fun h => h1 h.1).symm
theorem tagGet_eq (s : ByteArray) (hs : s.size ≤ 9223372036854775000) (a : Int) : tag_Get s a = groatref08_Get s a := by
  unfold tag_Get tag_Get_s0 groatref08_Get groatref08_Get_s0
  by_cases h1 : a < 0
  · rw [decide_eq_true h1]; rfl
  rw [decide_eq_false h1, cond_false, cond_false]
  by_cases h2 : (s.size : Int) < a
  · rw [decide_eq_true h2]; rfl
  rw [decide_eq_false h2, cond_false, cond_false]
  by_cases h3 : a = (s.size : Int)
  · rw [decide_eq_true h3]; rfl
  have wa : ∀ {R : Type} (x : Option R), within a s.size x = x := fun x => within_int (by omega) (by omega)
  rw [decide_eq_false h3, cond_false, cond_false]
  simp only [wa]
  obtain ⟨x, hx⟩ := byte_fin (byteAt_byte s a.toNat)
  obtain ⟨y, hy⟩ := byte_fin (byteAt_byte s (IntKind.i64.wrap (a + 1)).toNat)
  have hx2 := x.2
  have hy2 := y.2
  have ob := or_bytes (byteAt_byte s a.toNat) (byteAt_byte s (IntKind.i64.wrap (a + 1)).toNat)
  rw [hx, hy] at ob
  have w1 : IntKind.i64.wrap (a + 1) = a + 1 := i64_id (by omega) (by omega)
  have w2 : IntKind.i64.wrap (x.1 : Int) = (x.1 : Int) := i64_id (by omega) (by omega)
  have w3 : IntKind.i64.wrap (y.1 : Int) = (y.1 : Int) := i64_id (by omega) (by omega)
  have w4 : IntKind.i64.wrap ((s.size : Int) - a) = (s.size : Int) - a := i64_id (by omega) (by omega)
  rw [hx, hy, w2, first_fin x, Option.bind_some]
  rw [w2] at ob
  rcases first2_fin x with h | ⟨h, h31⟩ | ⟨h, h31⟩
  · rw [h]; rfl
  · rw [h, Option.bind_some, h31]; rfl
  · rw [h, Option.bind_some, h31, ob, right_two x h y, Option.bind_some, w1, w4, w3]
    by_cases h4 : a + 1 = (s.size : Int)
    · rw [decide_eq_true h4, decide_eq_true (by omega : (s.size : Int) - a < 2)]; rfl
    · have w5 : IntKind.i64.wrap (256 * (x.1 : Int)) = 256 * (x.1 : Int) := i64_id (by omega) (by omega)
      have w6 : IntKind.i64.wrap (256 * (x.1 : Int) + (y.1 : Int)) = (x.1 : Int) * 256 + (y.1 : Int) := by rw [i64_id (by omega) (by omega)]; omega
      rw [decide_eq_false h4, decide_eq_false (by omega : ¬ (s.size : Int) - a < 2), w5, w6]
      have wb : ∀ {R : Type} (x : Option R), within (a + 1) s.size x = x := fun x => within_int (by omega) (by omega)
      simp only [wb]
      by_cases h5 : (y.1 : Int) = 0
      · rw [decide_eq_true h5, decide_eq_false (by omega : ¬ (1 ≤ (y.1 : Int) ∧ (y.1 : Int) ≤ 127))]; rfl
      · by_cases h6 : (127 : Int) < (y.1 : Int)
        · rw [decide_eq_false h5, decide_eq_true h6, decide_eq_false (by omega : ¬ (1 ≤ (y.1 : Int) ∧ (y.1 : Int) ≤ 127))]; rfl
        · rw [decide_eq_false h5, decide_eq_false h6, decide_eq_true (by omega : 1 ≤ (y.1 : Int) ∧ (y.1 : Int) ≤ 127)]; rfl
end Groat
set_option linter.unusedVariables false
set_option linter.unusedSimpArgs false
namespace Groat
open Go Go.Ref
theorem Size_eq (n : Int) : ber_Size n = some (if n < 0 ∨ 65535 < n then 0 else if 255 < n then 3 else if 127 < n then 2 else 1) := by
  unfold ber_Size ber_Size_s0
  by_cases h1 : n < 0
  · rw [decide_eq_true h1, if_pos (.inl h1)]; rfl
  by_cases h2 : (65535 : Int) < n
  · rw [decide_eq_false h1, decide_eq_true h2, if_pos (.inr h2)]; rfl
  rw [decide_eq_false h1, decide_eq_false h2, if_neg (by omega)]
  by_cases h3 : (255 : Int) < n
  · rw [decide_eq_true h3, if_pos h3]; rfl
  by_cases h4 : (127 : Int) < n
  · rw [decide_eq_false h3, decide_eq_true h4, if_neg h3, if_pos h4]; rfl
  · rw [decide_eq_false h3, decide_eq_false h4, if_neg h3, if_neg h4]; rfl
theorem fuel3 : ∃ k, FUEL = k + 1 + 1 + 1 := ⟨FUEL - 3, by rw [fuel_eq]⟩
theorem or_zero {y : Int} (hy : isByte y) : ibits .or .i64 (IntKind.i64.wrap (0 * 2 ^ min (8 : Int).toNat 64)) (IntKind.i64.wrap y) = y := by
  obtain ⟨k, rfl⟩ := byte_fin hy
  clear hy
  revert k
  decide +kernel
theorem berGet_eq (s : ByteArray) (hs : s.size ≤ 9223372036854775000) (a : Int) : ber_Get s a = groatref09_Get s a := by
  unfold ber_Get ber_Get_s0 groatref09_Get groatref09_Get_s0
  by_cases h1 : a < 0
  · rw [decide_eq_true h1]; rfl
  rw [decide_eq_false h1, cond_false, cond_false]
  by_cases h2 : (s.size : Int) < a
  · rw [decide_eq_true h2]; rfl
  rw [decide_eq_false h2, cond_false, cond_false]
  by_cases h3 : a = (s.size : Int)
  · rw [decide_eq_true h3]; rfl
  have wa : ∀ {R : Type} (x : Option R), within a s.size x = x := fun x => within_int (by omega) (by omega)
  rw [decide_eq_false h3, cond_false, cond_false]
  simp only [wa]
  obtain ⟨x, hx⟩ := byte_fin (byteAt_byte s a.toNat)
  have hx2 := x.2
  have w1 : IntKind.i64.wrap (a + 1) = a + 1 := i64_id (by omega) (by omega)
  have w2 : IntKind.i64.wrap (x.1 : Int) = (x.1 : Int) := i64_id (by omega) (by omega)
  have w4 : IntKind.i64.wrap ((s.size : Int) - a) = (s.size : Int) - a := i64_id (by omega) (by omega)
  have w5 : IntKind.i64.wrap ((s.size : Int) - (a + 1)) = (s.size : Int) - (a + 1) := i64_id (by omega) (by omega)
  have w6 : IntKind.i64.wrap ((x.1 : Int) - 128) = (x.1 : Int) - 128 := i64_id (by omega) (by omega)
  have w7 : IntKind.i64.wrap ((x.1 : Int) - 127) = (x.1 : Int) - 127 := i64_id (by omega) (by omega)
  obtain ⟨k, hk⟩ := fuel3
  simp only [hx, w2, w1, w4, w5, w6, w7, hk]
  by_cases h4 : (127 : Int) < (x.1 : Int)
  · rw [decide_eq_true h4, cond_true, decide_eq_false (by omega : ¬ (x.1 : Int) < 128), cond_false]
    by_cases h5 : (x.1 : Int) = 129
    · have wn : IntKind.i64.wrap (0 + 1) = 1 := rfl
      simp only [h5]
      by_cases h6 : (s.size : Int) - a < 2
      · have e1 : ((s.size : Int) - (a + 1) < 129 - 128) := by omega
        have e2 : ((s.size : Int) - a < 129 - 127) := by omega
        rw [decide_eq_true e1, decide_eq_true e2]; rfl
      · have e1 : ¬ ((s.size : Int) - (a + 1) < 129 - 128) := by omega
        have e2 : ¬ ((s.size : Int) - a < 129 - 127) := by omega
        have wb : ∀ {R : Type} (x : Option R), within (a + 1) s.size x = x := fun x => within_int (by omega) (by omega)
        have wc : ∀ {R : Type} (x : Option R), within (IntKind.i64.wrap (a + 1 + 0)) s.size x = x := fun x => by rw [Int.add_zero, w1]; exact wb x
        obtain ⟨y, hy⟩ := byte_fin (byteAt_byte s (a + 1).toNat)
        have hy2 := y.2
        have w3 : IntKind.i64.wrap (y.1 : Int) = (y.1 : Int) := i64_id (by omega) (by omega)
        have oz := or_zero (y := (y.1 : Int)) ⟨by omega, by omega⟩
        rw [w3] at oz
        rw [decide_eq_false e1, decide_eq_false e2]
        have l1 : ber_Get_l0 (k + 1 + 1 + 1) s (a + 1) 0 (129 - 128) (129 - 128) 0 = some (a + 1, (y.1 : Int), 129 - 128) := by
          simp only [ber_Get_l0, ber_Get_s1]
          rw [show decide ((0 : Int) < 129 - 128) = true from rfl, cond_true, wc, wn, show decide ((1 : Int) < 129 - 128) = false from rfl, cond_false, Int.add_zero, w1, hy, w3, oz]
        simp only [wb, hy, w3]
        show (ber_Get_l0 (k + 1 + 1 + 1) s (a + 1) 0 (129 - 128) (129 - 128) 0).bind _ = _
        rw [l1, Option.bind_some]
        unfold ber_Get_s2
        dsimp only
        rw [Size_eq, Option.bind_some]
        by_cases h7 : (y.1 : Int) < 128
        · rw [if_neg (by omega), if_neg (by omega), if_neg (by omega), decide_eq_true h7]; rfl
        · rw [if_neg (by omega), if_neg (by omega), if_pos (by omega), decide_eq_false h7]
          have : IntKind.i64.wrap (a + 1 + (129 - 128)) = IntKind.i64.wrap (a + 2) := by congr 1; omega
          simp only [this]
          rfl
    · by_cases h6 : (x.1 : Int) = 130
      · have wn : IntKind.i64.wrap (0 + 1) = 1 := rfl
        have wm : IntKind.i64.wrap (1 + 1) = 2 := rfl
        simp only [h6]
        by_cases h7 : (s.size : Int) - a < 3
        · have e1 : ((s.size : Int) - (a + 1) < 130 - 128) := by omega
          have e2 : ((s.size : Int) - a < 130 - 127) := by omega
          rw [decide_eq_true e1, decide_eq_true e2]; rfl
        · have e1 : ¬ ((s.size : Int) - (a + 1) < 130 - 128) := by omega
          have e2 : ¬ ((s.size : Int) - a < 130 - 127) := by omega
          have wb : ∀ {R : Type} (x : Option R), within (a + 1) s.size x = x := fun x => within_int (by omega) (by omega)
          have w8 : IntKind.i64.wrap (a + 2) = a + 2 := i64_id (by omega) (by omega)
          have w9 : IntKind.i64.wrap (a + 1 + 1) = a + 2 := by rw [i64_id (by omega) (by omega)]; omega
          have wd : ∀ {R : Type} (x : Option R), within (a + 2) s.size x = x := fun x => within_int (by omega) (by omega)
          obtain ⟨y, hy⟩ := byte_fin (byteAt_byte s (a + 1).toNat)
          obtain ⟨z, hz⟩ := byte_fin (byteAt_byte s (a + 2).toNat)
          have hy2 := y.2
          have hz2 := z.2
          have w3 : IntKind.i64.wrap (y.1 : Int) = (y.1 : Int) := i64_id (by omega) (by omega)
          have w3' : IntKind.i64.wrap (z.1 : Int) = (z.1 : Int) := i64_id (by omega) (by omega)
          have oz := or_zero (y := (y.1 : Int)) ⟨by omega, by omega⟩
          have ob := or_bytes (x := (y.1 : Int)) (y := (z.1 : Int)) ⟨by omega, by omega⟩ ⟨by omega, by omega⟩
          rw [w3] at oz
          rw [w3, w3'] at ob
          rw [decide_eq_false e1, decide_eq_false e2]
          have l1 : ber_Get_l0 (k + 1 + 1 + 1) s (a + 1) 0 (130 - 128) (130 - 128) 0 = some (a + 1, (y.1 : Int) * 256 + (z.1 : Int), 130 - 128) := by
            simp only [ber_Get_l0, ber_Get_s1]
            rw [show decide ((0 : Int) < 130 - 128) = true from rfl, cond_true, wn, wm, show decide ((1 : Int) < 130 - 128) = true from rfl, cond_true, show decide ((2 : Int) < 130 - 128) = false from rfl, cond_false, Int.add_zero, w1, wb, w9, wd, hy, hz, w3, w3', oz, ob]
          have w5' : IntKind.i64.wrap (256 * (y.1 : Int)) = 256 * (y.1 : Int) := i64_id (by omega) (by omega)
          have w6' : IntKind.i64.wrap (256 * (y.1 : Int) + (z.1 : Int)) = (y.1 : Int) * 256 + (z.1 : Int) := by rw [i64_id (by omega) (by omega)]; omega
          simp only [wb, w8, wd, hy, hz, w3, w3', w5', w6']
          show (ber_Get_l0 (k + 1 + 1 + 1) s (a + 1) 0 (130 - 128) (130 - 128) 0).bind _ = _
          rw [l1, Option.bind_some]
          unfold ber_Get_s2
          dsimp only
          rw [Size_eq, Option.bind_some]
          by_cases h8 : (y.1 : Int) = 0
          · rw [if_neg (by omega), if_neg (by omega), decide_eq_true h8]
            by_cases h9 : (127 : Int) < (y.1 : Int) * 256 + (z.1 : Int)
            · rw [if_pos h9]; rfl
            · rw [if_neg h9]; rfl
          · rw [if_neg (by omega), if_pos (by omega), decide_eq_false h8]
            have : IntKind.i64.wrap (a + 1 + (130 - 128)) = IntKind.i64.wrap (a + 3) := by congr 1; omega
            simp only [this]
            rfl
      · rw [decide_eq_false h5, decide_eq_false h6]
        by_cases h7 : (x.1 : Int) = 128
        · rw [decide_eq_true h7]; rfl
        · rw [decide_eq_false h7, decide_eq_true (by omega : (130 : Int) < (x.1 : Int))]; rfl
  · rw [decide_eq_false h4, cond_false, decide_eq_true (by omega : (x.1 : Int) < 128), cond_true, decide_eq_false (by omega : ¬ (s.size : Int) - (a + 1) < 0), cond_false]
    have l1 : ber_Get_l0 (k + 1 + 1 + 1) s (a + 1) (x.1 : Int) 0 0 0 = some (a + 1, (x.1 : Int), 0) := by
      simp only [ber_Get_l0, ber_Get_s1]
      rw [show decide ((0 : Int) < 0) = false from rfl, cond_false]
    show (ber_Get_l0 (k + 1 + 1 + 1) s (a + 1) (x.1 : Int) 0 0 0).bind _ = _
    rw [l1, Option.bind_some]
    unfold ber_Get_s2
    dsimp only
    rw [Size_eq, Option.bind_some, if_neg (by omega), if_neg (by omega), if_neg (by omega), Int.add_zero, w1]
    rfl
end Groat
set_option linter.unusedVariables false
set_option linter.unusedSimpArgs false
namespace Groat
open Go Go.Ref
abbrev Val := Int × ByteArray × Unit
theorem has10_loop (l : List Val) (hl : l.length ≤ 9223372036854775807) (t : Int) : ∀ (m j k : Nat), j + m = l.length → m < k → groatref10_has_l0 k l (l.length : Int) t (j : Int) = some (if t ∈ (l.drop j).map (fun v => v.1) then .inl true else .inr ())
  | m, j, 0, _, hk => by omega
  | 0, j, k + 1, hj, hk => by
    unfold groatref10_has_l0 groatref10_has_s1
    rw [decide_eq_false (by omega), List.drop_eq_nil_of_le (by omega)]; rfl
  | m + 1, j, k + 1, hj, hk => by
    have hlt : j < l.length := by omega
    have hg : ∀ d, l.getD j d = l[j] := fun d => by rw [List.getD_eq_getElem?_getD, List.getElem?_eq_getElem hlt]; rfl
    unfold groatref10_has_l0 groatref10_has_s1
    rw [decide_eq_true (by omega), cond_true, within_nat_lt hlt, Int.toNat_natCast, hg, List.drop_eq_getElem_cons hlt, List.map_cons]
    by_cases h : l[j].1 = t
    · rw [decide_eq_true h, if_pos (by rw [h]; exact List.mem_cons_self)]; rfl
    · rw [decide_eq_false h, cond_false, i64_succ (by omega)]
      dsimp only
      rw [has10_loop l hl t m (j + 1) k (by omega) (by omega)]
      by_cases h2 : t ∈ (l.drop (j + 1)).map (fun v => v.1)
      · rw [if_pos h2, if_pos (List.mem_cons_of_mem _ h2)]
      · rw [if_neg h2, if_neg (fun h3 => (List.mem_cons.1 h3).elim (fun e => h e.symm) h2)]
theorem has10_eq (l : List Val) (hl : l.length ≤ maxLen) (t : Int) : groatref10_has l (l.length : Int) t = some (decide (t ∈ l.map fun v => v.1)) := by
  rw [maxLen_eq] at hl
  unfold groatref10_has groatref10_has_s0
  dsimp only
  have := has10_loop l hl t l.length 0 FUEL (by omega) (by rw [fuel_eq]; omega)
  rw [show ((0 : Nat) : Int) = (0 : Int) from rfl, List.drop_zero] at this
  rw [this, Option.bind_some]
  by_cases h : t ∈ l.map fun v => v.1
  · rw [if_pos h, decide_eq_true h]; rfl
  · rw [if_neg h, decide_eq_false h]; rfl
theorem tlv_loop (b : ByteArray) (hb : b.size ≤ 9223372036854775000) : ∀ (k : Nat) (t5 : List Val) (t7 : Int), t5.length ≤ 5864062014805 → tlv_Get_l0 k b t5 t7 (seenM (t5.map fun v => v.1)) = groatref10_Get_l0 k b t5 t7
  | 0, _, _, _ => rfl
  | k + 1, t5, t7, hl => by
    unfold tlv_Get_l0 tlv_Get_s1 groatref10_Get_l0 groatref10_Get_s1
    rw [tagGet_eq b hb]
    generalize decide (t7 < (b.size : Int)) = c0
    cases c0 with
    | false => rfl
    | true =>
      simp only [cond_true]
      cases groatref08_Get b t7 with
      | none => rfl
      | some r1 =>
        simp only [Option.bind_some]
        generalize (!decide (r1.2.2 = 0)) = c1
        cases c1 with
        | true => rfl
        | false =>
          simp only [cond_false]
          rw [berGet_eq b hb]
          cases groatref09_Get b r1.2.1 with
          | none => rfl
          | some r2 =>
            simp only [Option.bind_some]
            generalize (!decide (r2.2.2 = 0)) = c2
            cases c2 with
            | true => rfl
            | false =>
              simp only [cond_false]
              generalize decide (IntKind.i64.wrap ((b.size : Int) - r2.2.1) < r2.1) = c3
              cases c3 with
              | true => rfl
              | false =>
                simp only [cond_false]
                rw [has10_eq t5 (by rw [maxLen_eq]; omega), Option.bind_some]
                have e1 := mget_seen (eqK (.int .i64)) (fun _ _ => rfl) r1.1 (t5.map fun v => v.1)
                have e2 := mhas_seen (eqK (.int .i64)) (fun _ _ => rfl) r1.1 (t5.map fun v => v.1)
                by_cases hm : r1.1 ∈ t5.map fun v => v.1
                · rw [e1.2 hm, decide_eq_true hm]; rfl
                · rw [not_true' e1 hm, not_true' e2 hm, decide_eq_false hm]
                  simp only [cond_false]
                  rw [seenM_append]
                  have hs : (t5.map fun v => v.1) ++ [r1.1] = (t5 ++ [((r1.1, (b.extract r2.2.1.toNat (IntKind.i64.wrap (r2.2.1 + r2.1)).toNat), ()) : Val)]).map fun v => v.1 := by simp
                  rw [hs]
                  by_cases hn : (t5.length + 1) * 24 ≤ 140737488355328
                  · rw [tlv_loop b hb k _ _ (by simp; omega)]
                  · have : decide ((t5.length + (List.length ([(r1.1, (b.extract r2.2.1.toNat (IntKind.i64.wrap (r2.2.1 + r2.1)).toNat), ())] : List Val))) * 24 ≤ 140737488355328) = false := decide_eq_false (by simp; omega)
                    simp only [this, cond_false]
theorem tlvGet_eq (b : ByteArray) (hb : b.size ≤ 9223372036854775000) : tlv_Get b = groatref10_Get b := by
  unfold tlv_Get tlv_Get_s0 groatref10_Get groatref10_Get_s0
  dsimp only
  have := tlv_loop b hb FUEL [] 0 (by simp)
  rw [show seenM (([] : List Val).map fun v => v.1) = [] from rfl] at this
  rw [this]
  rfl
theorem Value_eq (s : Spec) (x : ByteArray) (hx : x.size ≤ 9223372036854775000) : spec_Value s x = groatref11_Value s x := by
  unfold spec_Value spec_Value_s0 groatref11_Value groatref11_Value_s0
  rw [specCheck_eq, specCheck11_eq, First_eq _ _ (by rw [maxLen_eq]; omega), First04_eq _ _ (by rw [maxLen_eq]; omega), tlvGet_eq x hx]
theorem specWider_eq (a b : Spec) : spec_Wider a b = groatref11_Wider a b := by
  unfold spec_Wider spec_Wider_s0 groatref11_Wider groatref11_Wider_s0 spec_classes spec_classes_s0
  rw [specCheck_eq, specCheck11_eq, specCheck_eq, specCheck11_eq, Wider_eq, Wider04_eq]
  simp only [Option.bind_some]
  by_cases h1 : specC a = 0
  · by_cases h2 : specC b = 0
    · simp only [h1, h2, decide_true, cond_true, Bool.not_true, cond_false]
      by_cases h3 : a.2.2.2.1 ≤ b.2.2.2.1
      · rw [decide_eq_true h3, decide_eq_false (by omega : ¬ b.2.2.2.1 < a.2.2.2.1)]
        by_cases h4 : b.2.2.2.2.1 ≤ a.2.2.2.2.1
        · rw [decide_eq_true h4, decide_eq_false (by omega : ¬ a.2.2.2.2.1 < b.2.2.2.2.1)]
          simp only [cond_true, cond_false]
          by_cases h5 : a.2.1 = 5
          · simp [h5]
          · by_cases h6 : a.2.1 = 6
            · simp [h6]
            · by_cases h7 : b.2.1 = 6
              · simp [h5, h6, h7]
              · simp [h5, h6, h7]
        · rw [decide_eq_false h4, decide_eq_true (by omega : a.2.2.2.2.1 < b.2.2.2.2.1)]; rfl
      · rw [decide_eq_false h3, decide_eq_true (by omega : b.2.2.2.1 < a.2.2.2.1)]; rfl
    · simp [h1, h2]
  · simp [h1]
end Groat
set_option linter.unusedVariables false
set_option linter.unusedSimpArgs false
namespace Groat
open Go Go.Ref
theorem tag_total (s : ByteArray) (hs : s.size ≤ 9223372036854775000) (a : Int) (h0 : 0 ≤ a) (h1 : a < s.size) : ∃ r, groatref08_Get s a = some r ∧ (r.2.2 = 0 → a < r.2.1 ∧ r.2.1 ≤ s.size) := by
  unfold groatref08_Get groatref08_Get_s0
  have wa : ∀ {R : Type} (x : Option R), within a s.size x = x := fun x => within_int (by omega) (by omega)
  rw [decide_eq_false (by omega : ¬ a < 0), decide_eq_false (by omega : ¬ (s.size : Int) < a), decide_eq_false (by omega : ¬ a = (s.size : Int))]
  simp only [cond_false, wa]
  obtain ⟨x, hx⟩ := byte_fin (byteAt_byte s a.toNat)
  have w1 : IntKind.i64.wrap (a + 1) = a + 1 := i64_id (by omega) (by omega)
  have w4 : IntKind.i64.wrap ((s.size : Int) - a) = (s.size : Int) - a := i64_id (by omega) (by omega)
  rw [hx, w1, w4]
  rcases first2_fin x with h | ⟨h, h31⟩ | ⟨h, h31⟩
  · rw [h]; exact ⟨_, rfl, fun h => by cases h⟩
  · rw [h]
    exact ⟨_, rfl, fun _ => ⟨by show a < a + 1; omega, by show a + 1 ≤ _; omega⟩⟩
  · rw [h, Option.bind_some]
    simp only [show decide ((2 : Int) = 0) = false from rfl, show decide ((2 : Int) = 1) = false from rfl, cond_false]
    by_cases h4 : (s.size : Int) - a < 2
    · rw [decide_eq_true h4]; exact ⟨_, rfl, fun h => by cases h⟩
    · have wb : ∀ {R : Type} (x : Option R), within (a + 1) s.size x = x := fun x => within_int (by omega) (by omega)
      have w2 : IntKind.i64.wrap (a + 2) = a + 2 := i64_id (by omega) (by omega)
      rw [decide_eq_false h4]
      simp only [cond_false, wb]
      generalize decide (byteAt s (a + 1).toNat = 0) = c1
      generalize decide ((127 : Int) < byteAt s (a + 1).toNat) = c2
      cases c1
      · cases c2
        · exact ⟨_, rfl, fun _ => ⟨by show a < IntKind.i64.wrap (a + 2); rw [w2]; omega, by show IntKind.i64.wrap (a + 2) ≤ _; rw [w2]; omega⟩⟩
        · exact ⟨_, rfl, fun h => by cases h⟩
      · exact ⟨_, rfl, fun h => by cases h⟩
theorem ber_total (s : ByteArray) (hs : s.size ≤ 9223372036854775000) (a : Int) (h0 : 0 ≤ a) (h1 : a ≤ s.size) : ∃ r, groatref09_Get s a = some r ∧ (r.2.2 = 0 → a < r.2.1 ∧ r.2.1 ≤ s.size ∧ 0 ≤ r.1 ∧ r.1 ≤ 65535) := by
  unfold groatref09_Get groatref09_Get_s0
  rw [decide_eq_false (by omega : ¬ a < 0), decide_eq_false (by omega : ¬ (s.size : Int) < a)]
  simp only [cond_false]
  by_cases he : a = (s.size : Int)
  · rw [decide_eq_true he]; exact ⟨_, rfl, fun h => by cases h⟩
  have wa : ∀ {R : Type} (x : Option R), within a s.size x = x := fun x => within_int (by omega) (by omega)
  rw [decide_eq_false he]
  simp only [cond_false, wa]
  obtain ⟨x, hx⟩ := byte_fin (byteAt_byte s a.toNat)
  have hx2 := x.2
  have w1 : IntKind.i64.wrap (a + 1) = a + 1 := i64_id (by omega) (by omega)
  have w2 : IntKind.i64.wrap (x.1 : Int) = (x.1 : Int) := i64_id (by omega) (by omega)
  have w4 : IntKind.i64.wrap ((s.size : Int) - a) = (s.size : Int) - a := i64_id (by omega) (by omega)
  have w7 : IntKind.i64.wrap ((x.1 : Int) - 127) = (x.1 : Int) - 127 := i64_id (by omega) (by omega)
  simp only [hx, w2, w1, w4, w7]
  by_cases h4 : (x.1 : Int) < 128
  · rw [decide_eq_true h4]
    exact ⟨_, rfl, fun _ => ⟨by show a < a + 1; omega, by show a + 1 ≤ _; omega, by show (0 : Int) ≤ (x.1 : Int); omega, by show (x.1 : Int) ≤ 65535; omega⟩⟩
  rw [decide_eq_false h4]
  have h08 : ∀ i, isByte (byteAt s i) := byteAt_byte s
  by_cases h5 : (x.1 : Int) = 129
  · have wb : (s.size : Int) - a < (x.1 : Int) - 127 ∨ ∀ {R : Type} (x : Option R), within (a + 1) s.size x = x := by
      by_cases h : (s.size : Int) - a < (x.1 : Int) - 127
      · exact .inl h
      · exact .inr fun x => within_int (by omega) (by omega)
    rw [decide_eq_true h5]
    simp only [Bool.not_true, cond_false, cond_true]
    by_cases h6 : (s.size : Int) - a < (x.1 : Int) - 127
    · rw [decide_eq_true h6]; exact ⟨_, rfl, fun h => by cases h⟩
    · have wb : ∀ {R : Type} (x : Option R), within (a + 1) s.size x = x := fun x => within_int (by omega) (by omega)
      have w8 : IntKind.i64.wrap (a + 2) = a + 2 := i64_id (by omega) (by omega)
      obtain ⟨y, hy⟩ := byte_fin (h08 (a + 1).toNat)
      have hy2 := y.2
      have w3 : IntKind.i64.wrap (y.1 : Int) = (y.1 : Int) := i64_id (by omega) (by omega)
      rw [decide_eq_false h6]
      simp only [cond_false, wb, hy, w3, w8]
      generalize decide ((y.1 : Int) < 128) = c
      cases c
      · exact ⟨_, rfl, fun _ => ⟨by show a < a + 2; omega, by show a + 2 ≤ _; omega, by show (0 : Int) ≤ (y.1 : Int); omega, by show (y.1 : Int) ≤ 65535; omega⟩⟩
      · exact ⟨_, rfl, fun h => by cases h⟩
  · rw [decide_eq_false h5]
    simp only [Bool.not_false, cond_false, cond_true]
    by_cases h9 : (x.1 : Int) = 130
    · rw [decide_eq_true h9]
      simp only [Bool.not_true, cond_false]
      by_cases h6 : (s.size : Int) - a < (x.1 : Int) - 127
      · rw [decide_eq_true h6]; exact ⟨_, rfl, fun h => by cases h⟩
      · have wb : ∀ {R : Type} (x : Option R), within (a + 1) s.size x = x := fun x => within_int (by omega) (by omega)
        have w8 : IntKind.i64.wrap (a + 2) = a + 2 := i64_id (by omega) (by omega)
        have w9 : IntKind.i64.wrap (a + 3) = a + 3 := i64_id (by omega) (by omega)
        have wd : ∀ {R : Type} (x : Option R), within (a + 2) s.size x = x := fun x => within_int (by omega) (by omega)
        obtain ⟨y, hy⟩ := byte_fin (h08 (a + 1).toNat)
        obtain ⟨z, hz⟩ := byte_fin (h08 (a + 2).toNat)
        have hy2 := y.2
        have hz2 := z.2
        have w3 : IntKind.i64.wrap (y.1 : Int) = (y.1 : Int) := i64_id (by omega) (by omega)
        have w3' : IntKind.i64.wrap (z.1 : Int) = (z.1 : Int) := i64_id (by omega) (by omega)
        have w5' : IntKind.i64.wrap (256 * (y.1 : Int)) = 256 * (y.1 : Int) := i64_id (by omega) (by omega)
        have w6' : IntKind.i64.wrap (256 * (y.1 : Int) + (z.1 : Int)) = 256 * (y.1 : Int) + (z.1 : Int) := i64_id (by omega) (by omega)
        rw [decide_eq_false h6]
        simp only [cond_false, wb, w8, wd, hy, hz, w3, w3', w5', w6', w9]
        generalize decide ((y.1 : Int) = 0) = c
        cases c
        · exact ⟨_, rfl, fun _ => ⟨by show a < a + 3; omega, by show a + 3 ≤ _; omega, by show (0 : Int) ≤ 256 * (y.1 : Int) + (z.1 : Int); omega, by show 256 * (y.1 : Int) + (z.1 : Int) ≤ 65535; omega⟩⟩
        · exact ⟨_, rfl, fun h => by cases h⟩
    · rw [decide_eq_false h9]; exact ⟨_, rfl, fun h => by cases h⟩
theorem tlv10_total_loop (b : ByteArray) (hb : b.size ≤ 1099511627776) : ∀ (n : Nat) (k : Nat) (t5 : List Val) (a : Int), 0 ≤ a → a ≤ b.size → (b.size : Int) - a ≤ n → n < k → t5.length + n ≤ 2199023255552 → ∃ r, groatref10_Get_l0 k b t5 a = some r
  | n, 0, _, _, _, _, _, h, _ => by omega
  | n, k + 1, t5, a, h0, h1, h2, h3, h4 => by
    unfold groatref10_Get_l0 groatref10_Get_s1
    by_cases hlt : a < (b.size : Int)
    · obtain ⟨r1, e1, p1⟩ := tag_total b (by omega) a h0 hlt
      rw [decide_eq_true hlt, e1, Option.bind_some, cond_true]
      by_cases z1 : r1.2.2 = 0
      · obtain ⟨q1, q2⟩ := p1 z1
        obtain ⟨r2, e2, p2⟩ := ber_total b (by omega) r1.2.1 (by omega) q2
        simp only [z1, decide_true, Bool.not_true, cond_false]
        rw [e2, Option.bind_some]
        by_cases z2 : r2.2.2 = 0
        · obtain ⟨u1, u2, u3, u4⟩ := p2 z2
          simp only [z2, decide_true, Bool.not_true, cond_false]
          have w1 : IntKind.i64.wrap ((b.size : Int) - r2.2.1) = (b.size : Int) - r2.2.1 := i64_id (by omega) (by omega)
          have w2 : IntKind.i64.wrap (r2.2.1 + r2.1) = r2.2.1 + r2.1 := i64_id (by omega) (by omega)
          rw [w1, w2]
          by_cases z3 : (b.size : Int) - r2.2.1 < r2.1
          · rw [decide_eq_true z3]; exact ⟨_, rfl⟩
          · rw [decide_eq_false z3, cond_false, has10_eq t5 (by rw [maxLen_eq]; omega), Option.bind_some]
            generalize decide (r1.1 ∈ t5.map fun v => v.1) = c
            cases c with
            | true => exact ⟨_, rfl⟩
            | false =>
              rw [cond_false, decide_eq_true (by omega : 0 ≤ r2.2.1 + r2.1), decide_eq_true (by omega : r2.2.1 + r2.1 ≤ (((b.size : Nat) : Int))), decide_eq_true (by omega : 0 ≤ r2.2.1), decide_eq_true (by omega : r2.2.1 ≤ (((r2.2.1 + r2.1).toNat : Nat) : Int)), decide_eq_true (by simp; omega)]
              simp only [cond_true]
              obtain ⟨n, rfl⟩ : ∃ n', n = n' + 1 := ⟨n - 1, by omega⟩
              exact tlv10_total_loop b hb n k _ _ (by omega) (by omega) (by omega) (by omega) (by simp; omega)
        · simp only [z2, decide_false, Bool.not_false, cond_true]; exact ⟨_, rfl⟩
      · simp only [z1, decide_false, Bool.not_false, cond_true]; exact ⟨_, rfl⟩
    · rw [decide_eq_false hlt]; exact ⟨_, rfl⟩
theorem tlv10_total (b : ByteArray) (hb : b.size ≤ 1099511627776) : ∃ r, groatref10_Get b = some r := by
  unfold groatref10_Get groatref10_Get_s0
  dsimp only
  obtain ⟨r, hr⟩ := tlv10_total_loop b hb b.size FUEL [] 0 (by omega) (by omega) (by omega) (by rw [fuel_eq]; omega) (by simp; omega)
  rw [hr, Option.bind_some]
  cases r <;> exact ⟨_, rfl⟩
@[irreducible] def valC (s : Spec) (x : ByteArray) : Int := (groatref11_Value s x).getD 0
theorem Value11_eq (s : Spec) (x : ByteArray) (hx : x.size ≤ 1099511627776) : groatref11_Value s x = some (valC s x) := by
  have : ∃ v, groatref11_Value s x = some v := by
    unfold groatref11_Value groatref11_Value_s0
    rw [specCheck11_eq, Option.bind_some, First04_eq _ _ (by rw [maxLen_eq]; omega), Option.bind_some]
    obtain ⟨r, hr⟩ := tlv10_total x hx
    rw [hr, Option.bind_some]
    generalize (!decide (specC s = 0)) = c1
    generalize decide ((x.size : Int) < s.2.2.2.1) = c2
    generalize decide (s.2.2.2.2.1 < (x.size : Int)) = c3
    generalize decide ((0 : Int) ≤ firstC s.2.1 (bl x) 0) = c4
    generalize decide (s.2.1 = 6) = c5
    cases c1 <;> cases c2 <;> cases c3 <;> cases c4 <;> cases c5 <;> first | exact ⟨_, rfl⟩ | skip
    cases r with
    | inl r => simp only [cond_false, cond_true, Sum.elim_inl]; cases (!decide (r.2.1 = 0)) <;> exact ⟨_, rfl⟩
    | inr r => simp only [cond_false, cond_true, Sum.elim_inr]; cases (!decide (r.2.1 = 0)) <;> exact ⟨_, rfl⟩
  obtain ⟨v, hv⟩ := this
  unfold valC
  rw [hv]; rfl
theorem Value_eq' (s : Spec) (x : ByteArray) (hx : x.size ≤ 1099511627776) : spec_Value s x = some (valC s x) := by
  rw [Value_eq s x (by omega), Value11_eq s x hx]
@[irreducible] def widS (a b : Spec) : Bool := (groatref11_Wider a b).getD false
theorem Wider11_eq (a b : Spec) : groatref11_Wider a b = some (widS a b) := by
  have : ∃ v, groatref11_Wider a b = some v := by
    unfold groatref11_Wider groatref11_Wider_s0
    rw [specCheck11_eq, specCheck11_eq, Wider04_eq]
    simp only [Option.bind_some]
    generalize (!decide (specC a = 0)) = c1
    generalize (!decide (specC b = 0)) = c2
    generalize decide (b.2.2.2.1 < a.2.2.2.1) = c3
    generalize decide (a.2.2.2.2.1 < b.2.2.2.2.1) = c4
    generalize decide (a.2.1 = 5) = c5
    generalize decide (a.2.1 = 6) = c6
    generalize decide (b.2.1 = 6) = c7
    cases c1 <;> cases c2 <;> cases c3 <;> cases c4 <;> cases c5 <;> cases c6 <;> cases c7 <;> exact ⟨_, rfl⟩
  obtain ⟨v, hv⟩ := this
  unfold widS
  rw [hv]; rfl
theorem Wider_eq' (a b : Spec) : spec_Wider a b = some (widS a b) := by rw [specWider_eq, Wider11_eq]
end Groat
set_option linter.unusedVariables false
set_option linter.unusedSimpArgs false
namespace Groat
open Go Go.Ref
abbrev Rule := Int × Int × Int × ByteArray × List Pair × Unit
def getS (s : Schema) (no : Int) : Spec := (findS s.2.2.1 no).getD spec0
def hasS (s : Schema) (no : Int) : Bool := (findS s.2.2.1 no).isSome
theorem Find_eq2 (s : Schema) (no : Int) (hl : s.2.2.1.length ≤ maxLen) : schema_Find s no = some (getS s no, hasS s no) := by
  rw [Find_eq s no hl]
  unfold getS hasS
  cases findS s.2.2.1 no <;> rfl
theorem idx_cases (s : Schema) (no : Int) : (idxS s.2.2.1 no 0 = -1 ∧ hasS s no = false ∧ getS s no = spec0) ∨ (0 ≤ idxS s.2.2.1 no 0 ∧ idxS s.2.2.1 no 0 < s.2.2.1.length ∧ hasS s no = true ∧ s.2.2.1.getD (idxS s.2.2.1 no 0).toNat spec0 = getS s no) := by
  unfold hasS getS
  rcases idxS_range s.2.2.1 no 0 (Int.le_refl _) with ⟨h1, h2⟩ | ⟨h1, h2, x, h3, h4⟩
  · left; rw [h2]; exact ⟨h1, rfl, rfl⟩
  · right; rw [h3]; rw [Int.sub_zero] at h4; exact ⟨h1, by omega, rfl, h4⟩
def endsE (r : Rule) (a b : Schema) : Bool :=
  (bif decide (r.1 = 3) then !decide (r.2.1 = 0) else !hasS a r.2.1) || (bif decide (r.1 = 2) then !decide (r.2.2.1 = 0) else !hasS b r.2.2.1)
def textE (r : Rule) : Bool := (!decide (r.2.2.2.1 = bs []) && !decide (r.1 = 3)) || (decide (0 < (r.2.2.2.2.1.length : Int)) && !decide (r.1 = 5))
def padS (s : Spec) : Bool := decide (s.2.1 = 1) && decide (s.2.2.1 = 1)
def valsC : List Pair → Spec → Spec → Int
  | [], _, _ => 0
  | p :: r, x, y => bif !decide (valC x p.1 = 0) then valC x p.1 else bif !decide (valC y p.2.1 = 0) then valC y p.2.1 else valsC r x y
def tableR (l : List Pair) (x y : Spec) : Int := bif (!decide ((tableC l).1 = 0) || decide ((l.length : Int) = 0)) then 15 else valsC l x y
def kindC (r : Rule) (x y : Spec) : Int :=
  bif decide (r.1 = 1) then (bif widS y x then 0 else 6) else bif decide (r.1 = 3) then valC y r.2.2.2.1 else bif decide (r.1 = 4) then (bif padS x && padS y then 0 else 6) else bif decide (r.1 = 5) then tableR r.2.2.2.2.1 x y else 0
def ruleC (r : Rule) (a b : Schema) : Int :=
  bif decide (r.1 < 1) || decide (5 < r.1) then 1 else bif endsE r a b then 9 else bif textE r then 3 else kindC r (getS a r.2.1) (getS b r.2.2.1)
structure PairsOk (l : List Pair) : Prop where
  len : l.length ≤ 1000000
  sz : ∀ p ∈ l, p.1.size ≤ 1099511627776 ∧ p.2.1.size ≤ 1099511627776
structure RuleOk (r : Rule) : Prop where
  text : r.2.2.2.1.size ≤ 1099511627776
  pairs : PairsOk r.2.2.2.2.1
theorem ends_eq (r : Rule) (a b : Schema) (ha : a.2.2.1.length ≤ maxLen) (hb : b.2.2.1.length ≤ maxLen) : rule_ends r a b = some (getS a r.2.1, getS b r.2.2.1, bif endsE r a b then 9 else 0) := by
  unfold rule_ends rule_ends_s0 endsE
  rw [Find_eq2 a _ ha, Find_eq2 b _ hb]
  simp only [Option.bind_some]
  generalize decide (r.1 = 3) = k3
  generalize decide (r.1 = 2) = k2
  generalize decide (r.2.1 = 0) = z1
  generalize decide (r.2.2.1 = 0) = z2
  generalize hasS a r.2.1 = h1
  generalize hasS b r.2.2.1 = h2
  cases k3 <;> cases k2 <;> cases z1 <;> cases z2 <;> cases h1 <;> cases h2 <;> rfl
theorem padded_eq (s : Spec) : rule_padded s = some (padS s) := by
  unfold rule_padded rule_padded_s0 padS
  generalize decide (s.2.1 = 1) = c1
  generalize decide (s.2.2.1 = 1) = c2
  cases c1 <;> cases c2 <;> rfl
def vres (v : Int) : Sum Int Unit := if v = 0 then .inr () else .inl v
theorem table_run (x y : Spec) : ∀ (l : List Pair) (i : Int), (∀ p ∈ l, p.1.size ≤ 1099511627776 ∧ p.2.1.size ≤ 1099511627776) →
    runI (fun i (p : Pair) (s : Unit) K => ((spec_Value x p.1).bind fun r2 => (bif (!decide (r2 = 0)) then some (Sum.inl r2) else ((spec_Value y p.2.1).bind fun r3 => (bif (!decide (r3 = 0)) then some (Sum.inl r3) else K s))))) (fun _ => some (Sum.inr ())) l i () = some (vres (valsC l x y))
  | [], i, _ => rfl
  | p :: r, i, h => by
    obtain ⟨h1, h2⟩ := h p List.mem_cons_self
    simp only [runI, valsC]
    rw [Value_eq' x p.1 h1, Option.bind_some]
    by_cases z1 : valC x p.1 = 0
    · rw [decide_eq_true z1]
      simp only [Bool.not_true, cond_false]
      rw [Value_eq' y p.2.1 h2, Option.bind_some]
      by_cases z2 : valC y p.2.1 = 0
      · rw [decide_eq_true z2]
        simp only [Bool.not_true, cond_false]
        exact table_run x y r (i + 1) fun q hq => h q (List.mem_cons_of_mem _ hq)
      · rw [decide_eq_false z2]
        simp only [Bool.not_false, cond_true, vres, if_neg z2]
    · rw [decide_eq_false z1]
      simp only [Bool.not_false, cond_true, vres, if_neg z1]
theorem table_eq (l : List Pair) (x y : Spec) (h : PairsOk l) : rule_table l x y = some (tableR l x y) := by
  have hl := h.len
  unfold rule_table rule_table_s0 tableR
  dsimp only
  rw [codesCheck_eq l (by rw [maxLen_eq]; omega), Option.bind_some]
  cases (!decide ((tableC l).1 = 0)) with
  | true => rfl
  | false =>
    cases decide ((l.length : Int) = 0) with
    | true => rfl
    | false =>
      simp only [cond_false, Bool.or_false]
      have := loopI pair0 l (by rw [maxLen_eq]; omega) (fun i (p : Pair) (s : Unit) K => ((spec_Value x p.1).bind fun r2 => (bif (!decide (r2 = 0)) then some (Sum.inl r2) else ((spec_Value y p.2.1).bind fun r3 => (bif (!decide (r3 = 0)) then some (Sum.inl r3) else K s))))) (fun _ => some (Sum.inr ()))
        (fun k i s => rule_table_l0 k l (l.length : Int) i x y) (fun k i s => rfl) ()
      rw [this, table_run x y l 0 h.sz, Option.bind_some]
      unfold vres
      by_cases z : valsC l x y = 0
      · rw [if_pos z, z]; rfl
      · rw [if_neg z]; rfl
theorem ruleCheck_eq (r : Rule) (a b : Schema) (h : RuleOk r) (ha : a.2.2.1.length ≤ maxLen) (hb : b.2.2.1.length ≤ maxLen) : rule_Check r a b = some (ruleC r a b) := by
  unfold rule_Check rule_Check_s0 ruleC kindC textE
  rw [ends_eq r a b ha hb]
  simp only [Option.bind_some, Wider_eq', Value_eq' _ _ h.text, padded_eq, table_eq _ _ _ h.pairs]
  generalize endsE r a b = e
  generalize decide (r.1 < 1) = c1
  generalize decide ((5 : Int) < r.1) = c2
  generalize decide (r.2.2.2.1 = bs []) = t
  generalize decide ((0 : Int) < (r.2.2.2.2.1.length : Int)) = p
  generalize decide (r.1 = 1) = k1
  generalize decide (r.1 = 3) = k3
  generalize decide (r.1 = 4) = k4
  generalize decide (r.1 = 5) = k5
  generalize padS (getS a r.2.1) = p1
  generalize padS (getS b r.2.2.1) = p2
  generalize widS (getS b r.2.2.1) (getS a r.2.1) = w
  cases c1 <;> cases c2 <;> first | rfl | skip
  cases e <;> first | rfl | skip
  cases t <;> cases p <;> cases k3 <;> cases k5 <;> first | rfl | skip
  all_goals (cases k1 <;> cases k4 <;> cases p1 <;> cases p2 <;> cases w <;> rfl)
end Groat
set_option linter.unusedVariables false
set_option linter.unusedSimpArgs false
namespace Groat
open Go Go.Ref
end Groat
set_option linter.unusedVariables false
set_option linter.unusedSimpArgs false
namespace Groat
open Go Go.Ref
def isDig (b : Int) : Bool := decide (48 ≤ b ∧ b ≤ 57)
def allD (l : List Int) : Bool := l.all isDig
theorem allD_cons (b : Int) (l : List Int) : allD (b :: l) = (isDig b && allD l) := rfl
theorem isDig_t {b : Int} (h : 48 ≤ b ∧ b ≤ 57) : isDig b = true := decide_eq_true h
theorem isDig_f {b : Int} (h : ¬ (48 ≤ b ∧ b ≤ 57)) : isDig b = false := decide_eq_false h
theorem bl_get {s : ByteArray} {j : Nat} (h : j < s.size) : (bl s).getD j 0 = ((s[j]'h).toNat : Int) := by
  rw [← bl_byteAt]
  unfold byteAt
  rw [dif_pos h]
theorem drop_bl {s : ByteArray} {j : Nat} (h : j < s.size) : (bl s).drop j = ((s[j]'h).toNat : Int) :: (bl s).drop (j + 1) := by
  have h' : j < (bl s).length := by rw [bl_length]; exact h
  rw [List.drop_eq_getElem_cons h']
  congr 1
  have := bl_get h
  rw [List.getD_eq_getElem?_getD, List.getElem?_eq_getElem h'] at this
  exact this
theorem decode_high (s : ByteArray) (pos : Nat) (h : pos < s.size) (ha : 128 ≤ (s[pos]'h).toNat) : 128 ≤ (Utf8.decode s pos).1 := by
  have e : s.get! (pos + 0) = s[pos]'h := by
    show s.get! pos = _
    simp [ByteArray.get!, getElem!_pos, h]
    rfl
  unfold Utf8.decode
  simp only [e]
  rw [if_neg (by omega)]
  have hre : 128 ≤ Utf8.runeError := by unfold Utf8.runeError; omega
  split
  · split
    · assumption
    · exact hre
  · split
    · split
      · rename_i hc
        simp only [Bool.and_eq_true, decide_eq_true_eq] at hc
        have := hc.1
        simp only
        omega
      · exact hre
    · split
      · split
        · rename_i hc
          simp only [Bool.and_eq_true, decide_eq_true_eq] at hc
          have := hc.1
          simp only
          omega
        · exact hre
      · exact hre
theorem all_loop (s : ByteArray) : ∀ (n j k : Nat), s.size - j ≤ n → j ≤ s.size → n < k → digits_All_l0 k (s, j) = some (bif allD ((bl s).drop j) then .inr () else .inl false)
  | n, j, 0, _, _, hk => by omega
  | n, j, k + 1, hn, hj, hk => by
    unfold digits_All_l0 digits_All_s1
    dsimp only
    by_cases hlt : j < s.size
    · rw [decide_eq_true hlt, cond_true, drop_bl hlt, allD_cons]
      by_cases h1 : (s[j]'hlt).toNat < 128
      · rw [decode_ascii s j hlt h1]
        dsimp only
        by_cases h2 : ((s[j]'hlt).toNat : Int) < 48
        · rw [decide_eq_true h2, cond_true, isDig_f (by omega)]; rfl
        · rw [decide_eq_false h2, cond_false]
          by_cases h3 : (57 : Int) < ((s[j]'hlt).toNat : Int)
          · rw [decide_eq_true h3, cond_true, isDig_f (by omega)]; rfl
          · obtain ⟨n, rfl⟩ : ∃ n', n = n' + 1 := ⟨n - 1, by omega⟩
            rw [decide_eq_false h3, cond_false, isDig_t (by omega), Bool.true_and, all_loop s n (j + 1) k (by omega) (by omega) (by omega)]
      · have hd := decode_high s j hlt (by omega)
        rw [decide_eq_false (by omega : ¬ ((Utf8.decode s j).1 : Int) < 48), cond_false, decide_eq_true (by omega : (57 : Int) < ((Utf8.decode s j).1 : Int)), cond_true, isDig_f (by omega)]; rfl
    · rw [decide_eq_false hlt, cond_false, List.drop_eq_nil_of_le (by rw [bl_length]; omega)]; rfl
theorem All_eq (s : ByteArray) (h : s.size ≤ maxLen) : digits_All s = some (allD (bl s)) := by
  unfold digits_All digits_All_s0
  dsimp only
  rw [maxLen_eq] at h
  rw [all_loop s s.size 0 FUEL (by omega) (by omega) (by rw [fuel_eq]; omega), List.drop_zero]
  cases allD (bl s) <;> rfl
end Groat
set_option linter.unusedVariables false
set_option linter.unusedSimpArgs false
namespace Groat
open Go Go.Ref
theorem set_rep (x : Int) (tail : List Int) : ∀ j, (List.replicate (j + 1) (0 : Int) ++ tail).set j x = List.replicate j 0 ++ x :: tail
  | 0 => rfl
  | j + 1 => by
    show (0 : Int) :: ((List.replicate (j + 1) (0 : Int) ++ tail).set j x) = 0 :: (List.replicate j 0 ++ x :: tail)
    rw [set_rep x tail j]
end Groat
set_option linter.unusedVariables false
set_option linter.unusedSimpArgs false
namespace Groat
open Go Go.Ref
def allZ (l : List Int) : Bool := l.all fun b => decide (b = 48)
theorem allZ_cons (b : Int) (l : List Int) : allZ (b :: l) = (decide (b = 48) && allZ l) := rfl
theorem allZ_append (a b : List Int) : allZ (a ++ b) = (allZ a && allZ b) := List.all_append ..
theorem bl_byteAt0 (s : ByteArray) (x : Int) (l : List Int) (h : bl s = x :: l) : byteAt s 0 = x := by rw [bl_byteAt, h]; rfl
theorem trimR (k : Nat) : ∀ (s : ByteArray), s.size < k → s.size ≤ 9223372036854775807 → ∃ r, strings_trimRightByte_l0 k s 48 = some r ∧ allZ (bl r) = allZ (bl s) ∧ (allZ (bl s) = true → bl r = []) ∧ r.size ≤ s.size := by
  induction k with
  | zero => intro s h; omega
  | succ k ih =>
    intro s h hs
    unfold strings_trimRightByte_l0 strings_trimRightByte_s1
    dsimp only
    by_cases h0 : (0 : Int) < (s.size : Int)
    · have hm : IntKind.i64.wrap ((s.size : Int) - 1) = ((s.size - 1 : Nat) : Int) := by rw [i64_id (by omega) (by omega)]; omega
      rw [decide_eq_true h0, cond_true, hm, within_nat_lt (by omega), Int.toNat_natCast]
      have hl : (bl s).length = s.size := bl_length s
      have hne : bl s ≠ [] := by intro e; rw [e] at hl; simp at hl; omega
      obtain ⟨r, b, hb⟩ : ∃ r b, bl s = r ++ [b] := ⟨(bl s).dropLast, (bl s).getLast hne, (List.dropLast_concat_getLast hne).symm⟩
      have hr : r.length = s.size - 1 := by rw [hb] at hl; simp at hl; omega
      have hx : byteAt s (s.size - 1) = b := by
        rw [bl_byteAt, hb, ← hr, List.getD_eq_getElem?_getD]; simp
      rw [hx]
      by_cases hz : b = 48
      · rw [decide_eq_true hz, cond_true, decide_eq_true (by omega : (0 : Int) ≤ ((s.size - 1 : Nat) : Int)), cond_true, decide_eq_true (by omega : ((s.size - 1 : Nat) : Int) ≤ ((s.size : Nat) : Int)), cond_true]
        have he : bl (s.extract 0 (s.size - 1)) = r := by rw [bl_extract, hb, List.drop_zero, ← hr, List.take_left']; rfl
        have hsz : (s.extract 0 (s.size - 1)).size = s.size - 1 := by rw [← bl_length, he, hr]
        obtain ⟨q, q1, q2, q3, q4⟩ := ih (s.extract 0 (s.size - 1)) (by omega) (by omega)
        refine ⟨q, q1, ?_, fun ha => q3 ?_, by omega⟩
        · rw [q2, he, hb, allZ_append, allZ_cons, decide_eq_true hz]; simp [allZ]
        · rw [hb, allZ_append, Bool.and_eq_true] at ha
          rw [he]; exact ha.1
      · rw [decide_eq_false hz, cond_false]
        refine ⟨s, rfl, rfl, fun ha => ?_, Nat.le_refl _⟩
        rw [hb, allZ_append, allZ_cons, decide_eq_false hz] at ha
        simp at ha
    · rw [decide_eq_false h0, cond_false]
      refine ⟨s, rfl, rfl, fun _ => List.eq_nil_of_length_eq_zero (by rw [bl_length]; omega), Nat.le_refl _⟩
theorem drop1 {s : ByteArray} {x : Int} {l : List Int} (h : bl s = x :: l) : bl (s.extract 1 s.size) = l := by
  rw [bl_extract, ← bl_length, List.take_length, h]; rfl
theorem trimL (k : Nat) : ∀ (s : ByteArray), s.size < k → s.size ≤ 9223372036854775807 → ∃ r, strings_trimLeftByte_l0 k s 48 = some r ∧ ((bl r = []) ↔ allZ (bl s) = true) := by
  induction k with
  | zero => intro s h; omega
  | succ k ih =>
    intro s h hs
    unfold strings_trimLeftByte_l0 strings_trimLeftByte_s1
    dsimp only
    have hl : (bl s).length = s.size := bl_length s
    by_cases h0 : (0 : Int) < (s.size : Int)
    · rw [decide_eq_true h0, cond_true, within_int (by omega) h0]
      cases hb : bl s with
      | nil => rw [hb] at hl; simp at hl; omega
      | cons x l =>
        rw [show ((0 : Int)).toNat = 0 from rfl, show ((1 : Int)).toNat = 1 from rfl, bl_byteAt0 s x l hb]
        by_cases hz : x = 48
        · rw [decide_eq_true hz, cond_true, decide_eq_true (by omega : (1 : Int) ≤ ((s.size : Nat) : Int)), cond_true]
          have he := drop1 hb
          have hsz : (s.extract 1 s.size).size = s.size - 1 := by rw [← bl_length, he, ← hl, hb]; simp
          obtain ⟨q, q1, q2⟩ := ih (s.extract 1 s.size) (by omega) (by omega)
          refine ⟨q, q1, q2.trans ?_⟩
          rw [he, allZ_cons, decide_eq_true hz]; simp
        · rw [decide_eq_false hz, cond_false]
          refine ⟨s, rfl, ?_⟩
          rw [hb, allZ_cons, decide_eq_false hz]; simp
    · rw [decide_eq_false h0, cond_false]
      have : bl s = [] := List.eq_nil_of_length_eq_zero (by omega)
      refine ⟨s, rfl, ?_⟩
      rw [this]; simp [allZ]
theorem Trim_eq (s : ByteArray) (h : s.size ≤ 9223372036854775807) : ∃ r, strings_Trim s (bs [48]) = some r ∧ (r = bs [] ↔ allZ (bl s) = true) := by
  unfold strings_Trim strings_Trim_s0
  by_cases h0 : s = bs []
  · rw [decide_eq_true h0, cond_true]
    refine ⟨s, rfl, ?_⟩
    rw [h0]; simp [bl_empty, allZ]
  rw [decide_eq_false h0, cond_false, decide_eq_false (show ¬ bs [48] = bs [] from fun e => absurd (congrArg ByteArray.size e) (by decide)), cond_false, decide_eq_true (by rfl : (((bs [48]).size : Nat) : Int) = 1), cond_true]
  have hb : byteAt (bs [48]) ((0 : Int)).toNat = 48 := by rw [bl_byteAt]; rfl
  have hw {R : Type} (x : Option R) : within (0 : Int) (bs [48]).size x = x := within_int (by omega) (by decide)
  rw [hw, hb, decide_eq_true (by decide : (48 : Int) < 128), cond_true, hw]
  unfold strings_trimRightByte strings_trimRightByte_s0
  dsimp only
  obtain ⟨r, r1, r2, r3, r4⟩ := trimR FUEL s (by rw [fuel_eq]; omega) h
  rw [r1, some_bind]
  unfold strings_trimRightByte_s2
  rw [some_bind, hw]
  unfold strings_trimLeftByte strings_trimLeftByte_s0
  dsimp only
  obtain ⟨q, q1, q2⟩ := trimL FUEL r (by rw [fuel_eq]; omega) (by omega)
  rw [q1, some_bind]
  unfold strings_trimLeftByte_s2
  rw [some_bind]
  refine ⟨q, rfl, ?_⟩
  rw [bl_nil_iff, q2, r2]
theorem repeat_bl : ∀ (c : Nat), bl ⟨(Go.Lib.repeatL (bs [48]).data.toList c).toArray⟩ = List.replicate c 48
  | 0 => rfl
  | c + 1 => by
    rw [List.replicate_succ, ← repeat_bl c]
    simp only [bl, Go.Lib.repeatL, List.map_append]
    rfl
def padD (s : ByteArray) (w : Int) : ByteArray × Bool :=
  bif decide (1 ≤ s.size ∧ s.size ≤ 999 ∧ allD (bl s) = true ∧ 1 ≤ w ∧ w ≤ 999) then
    (bif decide ((s.size : Int) ≤ w) then (strOf (List.replicate (w - s.size).toNat 48 ++ bl s), true)
     else bif allZ ((bl s).take (s.size - w.toNat)) then (strOf ((bl s).drop (s.size - w.toNat)), true) else (bs [], false))
  else (bs [], false)
theorem padD_f {s : ByteArray} {w : Int} (h : ¬ (1 ≤ s.size ∧ s.size ≤ 999 ∧ allD (bl s) = true ∧ 1 ≤ w ∧ w ≤ 999)) : padD s w = (bs [], false) := by unfold padD; rw [decide_eq_false h]; rfl
theorem padD_t {s : ByteArray} {w : Int} (h : 1 ≤ s.size ∧ s.size ≤ 999 ∧ allD (bl s) = true ∧ 1 ≤ w ∧ w ≤ 999) : padD s w = (bif decide ((s.size : Int) ≤ w) then (strOf (List.replicate (w - s.size).toNat 48 ++ bl s), true)
     else bif allZ ((bl s).take (s.size - w.toNat)) then (strOf ((bl s).drop (s.size - w.toNat)), true) else (bs [], false)) := by unfold padD; rw [decide_eq_true h]; rfl
theorem Pad_eq (s : ByteArray) (w : Int) (h : s.size ≤ maxLen) : digits_Pad s w = some (padD s w) := by
  unfold digits_Pad digits_Pad_s0
  dsimp only
  by_cases h0 : s = bs []
  · rw [decide_eq_true h0, cond_true, padD_f]
    intro hh
    rw [h0] at hh
    exact absurd hh.1 (by decide)
  have hz : s.size ≠ 0 := fun e => h0 (bl_nil_iff.2 (List.eq_nil_of_length_eq_zero (by rw [bl_length]; exact e)))
  rw [decide_eq_false h0, cond_false]
  by_cases h1 : (999 : Int) < (s.size : Int)
  · rw [decide_eq_true h1, cond_true, padD_f (by omega)]
  rw [decide_eq_false h1, cond_false, All_eq s h, some_bind]
  cases hd : allD (bl s) with
  | false => rw [padD_f (by rw [hd]; simp)]; rfl
  | true =>
    rw [Bool.not_true, cond_false]
    by_cases h2 : w < 1
    · rw [decide_eq_true h2, cond_true, padD_f (by omega)]
    rw [decide_eq_false h2, cond_false]
    by_cases h3 : (999 : Int) < w
    · rw [decide_eq_true h3, cond_true, padD_f (by omega)]
    rw [decide_eq_false h3, cond_false, padD_t ⟨by omega, by omega, hd, by omega, by omega⟩]
    obtain ⟨v, rfl⟩ : ∃ v : Nat, w = v := ⟨w.toNat, by omega⟩
    by_cases h4 : (s.size : Int) ≤ (v : Int)
    · rw [decide_eq_true h4, cond_true, cond_true]
      obtain ⟨c, hc⟩ : ∃ c : Nat, (v : Int) - (s.size : Int) = (c : Int) := ⟨v - s.size, by omega⟩
      rw [hc, i64_nat (by omega)]
      have hR : strings_Repeat (bs [48]) (c : Int) = some ⟨(Go.Lib.repeatL (bs [48]).data.toList c).toArray⟩ := by
        unfold strings_Repeat
        rw [decide_eq_true (by omega : (0 : Int) ≤ (c : Int)), decide_eq_true (by omega : (c : Int) ≤ 9223372036854775807), decide_eq_true (by rw [show (((bs [48]).size : Nat) : Int) = 1 from rfl]; omega), Int.toNat_natCast]
        rfl
      rw [hR, some_bind]
      have hsz : ((⟨(Go.Lib.repeatL (bs [48]).data.toList c).toArray⟩ : ByteArray)).size = c := by rw [← bl_length, repeat_bl, List.length_replicate]
      rw [hsz, decide_eq_true (by omega), cond_true, Int.toNat_natCast]
      congr 2
      apply bl_inj
      rw [bl_append, repeat_bl, bl_strOf]
      intro x hx
      rcases List.mem_append.1 hx with hx | hx
      · rw [(List.mem_replicate.1 hx).2]; unfold isByte; omega
      · exact bl_byte hx
    · rw [decide_eq_false h4, cond_false, cond_false]
      obtain ⟨c, hc⟩ : ∃ c : Nat, (s.size : Int) - (v : Int) = (c : Int) := ⟨s.size - v, by omega⟩
      have hcv : s.size - ((v : Int)).toNat = c := by omega
      rw [hc, i64_nat (by omega), decide_eq_true (by omega : (0 : Int) ≤ (c : Int)), cond_true, decide_eq_true (by omega : (c : Int) ≤ ((s.size : Nat) : Int)), cond_true, Int.toNat_natCast, hcv]
      have hx : bl (s.extract 0 c) = (bl s).take c := by rw [bl_extract, List.drop_zero]
      have hxs : (s.extract 0 c).size = c := by rw [← bl_length, hx, List.length_take, bl_length]; omega
      obtain ⟨r, r1, r2⟩ := Trim_eq (s.extract 0 c) (by omega)
      rw [r1, some_bind]
      rw [hx] at r2
      cases ha : allZ ((bl s).take c) with
      | true =>
        rw [decide_eq_true (r2.2 ha), Bool.not_true, cond_false, cond_true, cond_true]
        congr 2
        apply bl_inj
        rw [bl_extract, ← bl_length, List.take_length, bl_strOf]
        exact fun x hx => bl_byte (List.mem_of_mem_drop hx)
      | false =>
        rw [decide_eq_false (fun e => by rw [r2.1 e] at ha; cases ha), Bool.not_false, cond_true]; rfl
end Groat
set_option linter.unusedVariables false
set_option linter.unusedSimpArgs false
namespace Groat
open Go Go.Ref
@[irreducible] def tlvE (x : ByteArray) : Int := ((groatref10_Get x).map fun r => Sum.elim (fun (w : (List (Int × ByteArray × Unit)) × Int × Int) => w.2.1) (fun (w : (List (Int × ByteArray × Unit)) × Int × Int) => w.2.1) r).getD 0
theorem valC_iff (s : Spec) (x : ByteArray) (hx : x.size ≤ 1099511627776) : valC s x = 0 ↔ specC s = 0 ∧ s.2.2.2.1 ≤ (x.size : Int) ∧ (x.size : Int) ≤ s.2.2.2.2.1 ∧ (bl x).all (isC s.2.1) = true ∧ (s.2.1 = 6 → tlvE x = 0) := by
  have h := Value11_eq s x hx
  unfold groatref11_Value groatref11_Value_s0 at h
  rw [specCheck11_eq, Option.bind_some, First04_eq _ _ (by rw [maxLen_eq]; omega), Option.bind_some] at h
  obtain ⟨r, hr⟩ := tlv10_total x hx
  have ht : tlvE x = Sum.elim (fun (w : (List (Int × ByteArray × Unit)) × Int × Int) => w.2.1) (fun (w : (List (Int × ByteArray × Unit)) × Int × Int) => w.2.1) r := by unfold tlvE; rw [hr]; rfl
  rw [hr, Option.bind_some] at h
  by_cases c1 : specC s = 0
  · rw [decide_eq_true c1, Bool.not_true, cond_false] at h
    by_cases c2 : (x.size : Int) < s.2.2.2.1
    · rw [decide_eq_true c2, cond_true] at h
      have := Option.some.inj h
      exact ⟨fun e => by omega, fun e => by omega⟩
    rw [decide_eq_false c2, cond_false] at h
    by_cases c3 : s.2.2.2.2.1 < (x.size : Int)
    · rw [decide_eq_true c3, cond_true] at h
      have := Option.some.inj h
      exact ⟨fun e => by omega, fun e => by omega⟩
    rw [decide_eq_false c3, cond_false] at h
    have hf := firstC_none s.2.1 (bl x) 0 (Int.le_refl _)
    by_cases c4 : (0 : Int) ≤ firstC s.2.1 (bl x) 0
    · rw [decide_eq_true c4, cond_true] at h
      have := Option.some.inj h
      exact ⟨fun e => by omega, fun e => absurd e.2.2.2.1 (hf.1 c4)⟩
    rw [decide_eq_false c4, cond_false] at h
    have hall : (bl x).all (isC s.2.1) = true := by
      cases hq : (bl x).all (isC s.2.1) with
      | true => rfl
      | false => exact absurd (hf.2 (by rw [hq]; decide)) c4
    by_cases c5 : s.2.1 = 6
    · rw [decide_eq_true c5, cond_true] at h
      have key : (bif (!decide (tlvE x = 0)) then some (13 : Int) else some 0) = some (valC s x) := by
        rw [← h]
        cases r with
        | inl r => rw [Sum.elim_inl] at ht ⊢; rw [← ht]
        | inr r => rw [Sum.elim_inr] at ht ⊢; rw [← ht]
      by_cases c6 : tlvE x = 0
      · rw [decide_eq_true c6] at key
        have := Option.some.inj key
        exact ⟨fun _ => ⟨c1, by omega, by omega, hall, fun _ => c6⟩, fun _ => this.symm⟩
      · rw [decide_eq_false c6] at key
        have := Option.some.inj key
        exact ⟨fun e => by omega, fun e => absurd (e.2.2.2.2 c5) c6⟩
    · rw [decide_eq_false c5, cond_false] at h
      have := Option.some.inj h
      exact ⟨fun _ => ⟨c1, by omega, by omega, hall, fun e => absurd e c5⟩, fun _ => this.symm⟩
  · rw [decide_eq_false c1, Bool.not_false, cond_true] at h
    have := Option.some.inj h
    exact ⟨fun e => by omega, fun e => absurd e.1 c1⟩
theorem widS_iff (a b : Spec) : widS a b = true ↔ specC a = 0 ∧ specC b = 0 ∧ a.2.2.2.1 ≤ b.2.2.2.1 ∧ b.2.2.2.2.1 ≤ a.2.2.2.2.1 ∧ (a.2.1 = 5 ∨ (a.2.1 = 6 ∧ b.2.1 = 6) ∨ (a.2.1 ≠ 5 ∧ a.2.1 ≠ 6 ∧ b.2.1 ≠ 6 ∧ widerC a.2.1 b.2.1 = true)) := by
  have h := Wider11_eq a b
  unfold groatref11_Wider groatref11_Wider_s0 at h
  rw [specCheck11_eq, specCheck11_eq, Wider04_eq] at h
  simp only [Option.bind_some] at h
  by_cases c1 : specC a = 0
  · rw [decide_eq_true c1, Bool.not_true, cond_false] at h
    by_cases c2 : specC b = 0
    · rw [decide_eq_true c2, Bool.not_true, cond_false] at h
      by_cases c3 : b.2.2.2.1 < a.2.2.2.1
      · rw [decide_eq_true c3, cond_true] at h
        have := Option.some.inj h
        exact ⟨fun e => (by rw [e] at this; cases this), fun e => by omega⟩
      rw [decide_eq_false c3, cond_false] at h
      by_cases c4 : a.2.2.2.2.1 < b.2.2.2.2.1
      · rw [decide_eq_true c4, cond_true] at h
        have := Option.some.inj h
        exact ⟨fun e => (by rw [e] at this; cases this), fun e => by omega⟩
      rw [decide_eq_false c4, cond_false] at h
      by_cases c5 : a.2.1 = 5
      · rw [decide_eq_true c5, cond_true] at h
        have := Option.some.inj h
        exact ⟨fun _ => ⟨c1, c2, by omega, by omega, .inl c5⟩, fun _ => this.symm⟩
      rw [decide_eq_false c5, cond_false] at h
      by_cases c6 : a.2.1 = 6
      · rw [decide_eq_true c6, cond_true] at h
        have := Option.some.inj h
        rw [← this, decide_eq_true_eq]
        exact ⟨fun e => ⟨c1, c2, by omega, by omega, .inr (.inl ⟨c6, by omega⟩)⟩, fun e => by omega⟩
      rw [decide_eq_false c6, cond_false] at h
      by_cases c7 : b.2.1 = 6
      · rw [decide_eq_true c7, cond_true] at h
        have := Option.some.inj h
        rw [← this, decide_eq_true_eq]
        exact ⟨fun e => by omega, fun e => by omega⟩
      rw [decide_eq_false c7, cond_false] at h
      have := Option.some.inj h
      rw [← this]
      refine ⟨fun e => ⟨c1, c2, by omega, by omega, .inr (.inr ⟨c5, c6, c7, e⟩)⟩, fun e => ?_⟩
      rcases e.2.2.2.2 with e | e | e
      · exact absurd e c5
      · exact absurd e.1 c6
      · exact e.2.2.2
    · rw [decide_eq_false c2, Bool.not_false, cond_true] at h
      have := Option.some.inj h
      exact ⟨fun e => (by rw [e] at this; cases this), fun e => absurd e.2.1 c2⟩
  · rw [decide_eq_false c1, Bool.not_false, cond_true] at h
    have := Option.some.inj h
    exact ⟨fun e => (by rw [e] at this; cases this), fun e => absurd e.1 c1⟩
theorem specC_facts {s : Spec} (h : specC s = 0) : (2 ≤ s.1 ∧ s.1 ≤ 128) ∧ (1 ≤ s.2.1 ∧ s.2.1 ≤ 6) ∧ (1 ≤ s.2.2.1 ∧ s.2.2.1 ≤ 3) ∧ (1 ≤ s.2.2.2.1 ∧ s.2.2.2.1 ≤ s.2.2.2.2.1 ∧ s.2.2.2.2.1 ≤ 999) ∧ (s.2.2.1 = 1 → s.2.2.2.1 = s.2.2.2.2.1) ∧ ¬ (s.2.2.1 = 1 ∧ s.2.1 = 6) := by
  unfold specC at h
  split at h
  · omega
  split at h
  · omega
  split at h
  · omega
  split at h
  · omega
  split at h
  · omega
  · omega
theorem wid_refl_fin : ∀ a : Fin 7, a.1 ≠ 0 → widerC (a.1 : Int) (a.1 : Int) = true := by decide +kernel
theorem widS_refl {x : Spec} (h : specC x = 0) : widS x x = true := by
  obtain ⟨_, f2, _⟩ := specC_facts h
  refine (widS_iff x x).2 ⟨h, h, by omega, by omega, ?_⟩
  by_cases c5 : x.2.1 = 5
  · exact .inl c5
  by_cases c6 : x.2.1 = 6
  · exact .inr (.inl ⟨c6, c6⟩)
  obtain ⟨k, hk⟩ := in_fin f2
  refine .inr (.inr ⟨c5, c6, c6, ?_⟩)
  rw [hk]
  exact wid_refl_fin k (by omega)
theorem isC_one : isC 1 = isDig := by funext b; simp [isC, isDig]
theorem all_one (l : List Int) : l.all (isC 1) = allD l := by rw [isC_one]; rfl
theorem padD_same {t : ByteArray} (h1 : 1 ≤ t.size) (h2 : t.size ≤ 999) (hd : allD (bl t) = true) : padD t (t.size : Int) = (t, true) := by
  rw [padD_t ⟨h1, h2, hd, by omega, by omega⟩, decide_eq_true (by omega), cond_true, show ((t.size : Int) - (t.size : Int)).toNat = 0 by omega, List.replicate_zero, List.nil_append, strOf_bl]
abbrev val0 : Val := (0, bs [], ())
def applyR (r : Rule) (b : Schema) (t : ByteArray) : Val × Int :=
  bif decide (r.1 = 1) then ((r.2.2.1, t, ()), 0) else bif decide (r.1 = 2) then (val0, 0) else bif decide (r.1 = 3) then ((r.2.2.1, r.2.2.2.1, ()), 0)
  else bif decide (r.1 = 4) then (bif !hasS b r.2.2.1 then (val0, 9) else bif !(padD t (getS b r.2.2.1).2.2.2.1).2 then (val0, 5) else ((r.2.2.1, (padD t (getS b r.2.2.1).2.2.2.1).1, ()), 0))
  else bif decide (r.1 = 5) then (bif !(applyP r.2.2.2.2.1 t).2 then (val0, 15) else ((r.2.2.1, (applyP r.2.2.2.2.1 t).1, ()), 0)) else (val0, 1)
theorem ruleApply_eq (r : Rule) (b : Schema) (t : ByteArray) (hp : r.2.2.2.2.1.length ≤ maxLen) (hb : b.2.2.1.length ≤ maxLen) (ht : t.size ≤ maxLen) : rule_Apply r b t = some (applyR r b t) := by
  unfold rule_Apply rule_Apply_s0 applyR
  rw [Find_eq2 b _ hb, Option.bind_some, Pad_eq t _ ht, Option.bind_some, codesApply_eq _ _ hp, Option.bind_some]
  generalize decide (r.1 = 1) = k1
  generalize decide (r.1 = 2) = k2
  generalize decide (r.1 = 3) = k3
  generalize decide (r.1 = 4) = k4
  generalize decide (r.1 = 5) = k5
  generalize hasS b r.2.2.1 = h
  generalize padD t (getS b r.2.2.1).2.2.2.1 = p
  generalize applyP r.2.2.2.2.1 t = q
  obtain ⟨p1, p2⟩ := p
  obtain ⟨q1, q2⟩ := q
  cases k1 <;> cases k2 <;> cases k3 <;> cases k4 <;> cases k5 <;> cases h <;> cases p2 <;> cases q2 <;> rfl
theorem getS_mem {s : Schema} {no : Int} (h : hasS s no = true) : getS s no ∈ s.2.2.1 ∧ (getS s no).1 = no := by
  unfold hasS at h
  unfold getS
  cases hf : findS s.2.2.1 no with
  | none => rw [hf] at h; cases h
  | some x =>
    unfold findS at hf
    exact ⟨List.mem_of_find?_eq_some hf, by simpa using List.find?_some hf⟩
theorem okay_spec {s : Schema} (h : Okay s) {no : Int} (hh : hasS s no = true) : specC (getS s no) = 0 := h.2.2.2.1 _ (getS_mem hh).1
end Groat
set_option linter.unusedVariables false
set_option linter.unusedSimpArgs false
namespace Groat
open Go Go.Ref
def rightM (m : ByteArray) : Bool := decide ((m.size : Int) = 4) && allD (bl m)
def reqM (m : ByteArray) : Bool := rightM m && (decide (byteAt m 2 = 48) || decide (byteAt m 2 = 50))
def versM (m : ByteArray) (v : Int) : Bool := rightM m && decide (byteAt m 0 - 48 = v)
def typedP (p : Pair) (a b : Schema) : Bool := versM p.1 a.2.1 && (versM p.2.1 b.2.1 && (reqM p.1 == reqM p.2.1))
end Groat
set_option linter.unusedVariables false
set_option linter.unusedSimpArgs false
namespace Groat
open Go Go.Ref
abbrev Map := List Pair × List Rule × Unit
structure MapOk (m : Map) : Prop where
  mtis : PairsOk m.1
  len : m.2.1.length ≤ 1000000
  rules : ∀ r ∈ m.2.1, RuleOk r
def mtisC (a b : Schema) : List ByteArray → List Pair → Int → Option (Int × Int)
  | _, [], _ => none
  | seen, p :: r, i => if typedP p a b = true then (if p.1 ∈ seen then some (10, i) else mtisC a b (seen ++ [p.1]) r (i + 1)) else some (7, i)
def twiceR (x y : Rule) : Bool := (!decide (x.2.1 = 0) && decide (x.2.1 = y.2.1)) || (!decide (x.2.2.1 = 0) && decide (x.2.2.1 = y.2.2.1))
def rulesC (a b : Schema) : List Rule → List Rule → Int → Option (Int × Int)
  | _, [], _ => none
  | prev, r :: l, i => if ruleC r a b = 0 then (if prev.any (fun q => twiceR q r) = true then some (10, i) else rulesC a b (prev ++ [r]) l (i + 1)) else some (ruleC r a b, i)
def mapC (m : Map) (a b : Schema) : Int × Int × Int :=
  if (schemaC a).1 = 0 then (if (schemaC b).1 = 0 then (if 256 < m.1.length then (5, 2, 256) else match mtisC a b [] m.1 0 with
    | some e => (e.1, 2, e.2)
    | none => if 256 < m.2.1.length then (5, 3, 256) else match rulesC a b [] m.2.1 0 with
      | some e => (e.1, 3, e.2)
      | none => (0, 0, 0)) else (1, 1, 1)) else (1, 1, 0)
end Groat
set_option linter.unusedVariables false
set_option linter.unusedSimpArgs false
namespace Groat
open Go Go.Ref
end Groat
set_option linter.unusedVariables false
set_option linter.unusedSimpArgs false
namespace Groat
open Go Go.Ref
instance ruleDec : DecidableEq Rule := fun x y => decidable_of_iff ((decide (x.1 = y.1) && (decide (x.2.1 = y.2.1) && (decide (x.2.2.1 = y.2.2.1) && (decide (x.2.2.2.1 = y.2.2.2.1) && decide (x.2.2.2.2.1 = y.2.2.2.2.1))))) = true) (by obtain ⟨a1, a2, a3, a4, a5, u⟩ := x; obtain ⟨b1, b2, b3, b4, b5, v⟩ := y; simp)
instance mapDec : DecidableEq Map := fun x y => decidable_of_iff ((decide (x.1 = y.1) && decide (x.2.1 = y.2.1)) = true) (by obtain ⟨a1, a2, u⟩ := x; obtain ⟨b1, b2, v⟩ := y; simp)
def turnR (r : Rule) : Rule := (r.1, r.2.2.1, r.2.1, r.2.2.2.1, turnP r.2.2.2.2.1, ())
def turnM (m : Map) : Map := (turnP m.1, m.2.1.map turnR, ())
end Groat
set_option linter.unusedVariables false
set_option linter.unusedSimpArgs false
namespace Groat
open Go Go.Ref
structure Rule0 (r : Rule) (a b : Schema) : Prop where
  lo : ¬ r.1 < 1
  hi : ¬ (5 : Int) < r.1
  ends : endsE r a b = false
  text : textE r = false
  kind : kindC r (getS a r.2.1) (getS b r.2.2.1) = 0
theorem mtisC_none {a b : Schema} : ∀ {l : List Pair} {seen : List ByteArray} {i : Int}, mtisC a b seen l i = none ↔ (∀ p ∈ l, typedP p a b = true) ∧ dupP seen l i = none
  | [], seen, i => by simp [mtisC, dupP]
  | p :: r, seen, i => by
    simp only [mtisC, dupP, List.mem_cons, forall_eq_or_imp]
    cases ht : typedP p a b with
    | false => simp
    | true =>
      rw [if_pos rfl]
      by_cases hm : p.1 ∈ seen
      · simp [hm]
      · rw [if_neg hm, if_neg hm, mtisC_none]
        simp
def NoTwice : List Rule → List Rule → Prop
  | _, [] => True
  | prev, r :: l => prev.any (fun q => twiceR q r) = false ∧ NoTwice (prev ++ [r]) l
theorem rulesC_none {a b : Schema} : ∀ {l : List Rule} {prev : List Rule} {i : Int}, rulesC a b prev l i = none ↔ (∀ r ∈ l, ruleC r a b = 0) ∧ NoTwice prev l
  | [], prev, i => by simp [rulesC, NoTwice]
  | r :: l, prev, i => by
    simp only [rulesC, NoTwice, List.mem_cons, forall_eq_or_imp]
    by_cases z : ruleC r a b = 0
    · rw [if_pos z]
      cases hp : prev.any (fun q => twiceR q r) with
      | true => simp
      | false =>
        rw [if_neg (by simp), rulesC_none]
        simp [z]
    · rw [if_neg z]; simp [z]
structure Map0 (m : Map) (a b : Schema) : Prop where
  sa : (schemaC a).1 = 0
  sb : (schemaC b).1 = 0
  len1 : m.1.length ≤ 256
  typed : ∀ p ∈ m.1, typedP p a b = true
  dup : dupP [] m.1 0 = none
  len2 : m.2.1.length ≤ 256
  rules : ∀ r ∈ m.2.1, ruleC r a b = 0
  twice : NoTwice [] m.2.1
theorem Map0.eq {m : Map} {a b : Schema} (h : Map0 m a b) : mapC m a b = (0, 0, 0) := by
  unfold mapC
  have e1 := mtisC_none.2 ⟨h.typed, h.dup⟩
  have e2 : rulesC a b [] m.2.1 0 = none := rulesC_none.2 ⟨h.rules, h.twice⟩
  have l1 := h.len1
  have l2 := h.len2
  rw [if_pos h.sa, if_pos h.sb, if_neg (by omega), e1]
  simp only
  rw [if_neg (by omega), e2]
theorem PairsOk.turn {l : List Pair} (h : PairsOk l) : PairsOk (turnP l) := ⟨by rw [turnP_len]; exact h.len, fun p hp => by
  unfold turnP at hp
  obtain ⟨q, hq, rfl⟩ := List.mem_map.1 hp
  exact ⟨(h.sz q hq).2, (h.sz q hq).1⟩⟩
theorem MapOk.turn {m : Map} (h : MapOk m) : MapOk (turnM m) := ⟨h.mtis.turn, by show (m.2.1.map turnR).length ≤ _; rw [List.length_map]; exact h.len, fun r hr => by
  obtain ⟨q, hq, rfl⟩ := List.mem_map.1 (show r ∈ m.2.1.map turnR from hr)
  exact ⟨(h.rules q hq).text, (h.rules q hq).pairs.turn⟩⟩
end Groat
set_option linter.unusedVariables false
set_option linter.unusedSimpArgs false
namespace Groat
open Go Go.Ref
abbrev tSpec : Ty := .pair (.int .i64) (.pair (.int .i64) (.pair (.int .i64) (.pair (.int .i64) (.pair (.int .i64) .unit))))
abbrev tSchema : Ty := .pair (.int .i64) (.pair (.int .i64) (.pair (.sl 0 tSpec) .unit))
theorem wf_fields {s : Schema} (h : Wf tSchema s) : s.2.2.1.length ≤ maxLen := h.2.2.1.1
end Groat
set_option linter.unusedVariables false
set_option linter.unusedSimpArgs false
namespace Groat
open Go Go.Ref
end Groat
set_option linter.unusedVariables false
set_option linter.unusedSimpArgs false
namespace Groat
open Go Go.Ref
theorem awake20 : groatlaw20_awake = some true := by kernel_rfl
theorem pure_RuleSame (s : Schema) (no : Int) (t : ByteArray) (h : Wf tSchema s) (hn : Wf (.int .i64) no) (ht : Wf .str t) : groatlaw20_RuleSame s no t = some true := by
  have hl := wf_fields h
  unfold groatlaw20_RuleSame groatlaw20_RuleSame_s0
  rw [awake20, some_bind, Bool.not_true, cond_false]
  by_cases h1 : (200 : Int) < (s.2.2.1.length : Int)
  · rw [decide_eq_true h1]; rfl
  rw [decide_eq_false h1, cond_false, Right13_eq s hl, some_bind]
  by_cases hk : (schemaC s).1 = 0
  · have ok := (schemaC_ok s).1 hk
    rw [decide_eq_true hk, Bool.not_true, cond_false]
    by_cases h2 : (1200 : Int) < (t.size : Int)
    · rw [decide_eq_true h2]; rfl
    have ht' : t.size ≤ maxLen := ht
    have rok : ∀ k : Int, RuleOk (k, no, no, bs [], ([] : List Pair), ()) := fun k => ⟨by show (bs []).size ≤ _; decide, ⟨by show ([] : List Pair).length ≤ _; decide, fun p hp => by cases hp⟩⟩
    rw [decide_eq_false h2, cond_false, Find13_eq s no hl, some_bind]
    rcases idx_cases s no with ⟨i1, i2, i3⟩ | ⟨i1, i2, i3, i4⟩
    · rw [i1, decide_eq_true (by omega : (-1 : Int) < 0), cond_true, ruleCheck_eq _ s s (rok 1) hl hl, some_bind]
      have : ruleC (1, no, no, bs [], ([] : List Pair), ()) s s = 9 := by
        unfold ruleC endsE
        rw [show (hasS s ((1, no, no, bs [], ([] : List Pair), ()) : Rule).2.1) = false from i2]
        rfl
      rw [this]; rfl
    · have x1 := okay_spec ok i3
      have c1 : ruleC (1, no, no, bs [], ([] : List Pair), ()) s s = 0 := by
        unfold ruleC endsE textE kindC
        rw [show (hasS s ((1, no, no, bs [], ([] : List Pair), ()) : Rule).2.1) = true from i3]
        show (bif widS (getS s no) (getS s no) then (0 : Int) else 6) = 0
        rw [widS_refl x1]; rfl
      rw [decide_eq_false (by omega : ¬ idxS s.2.2.1 no 0 < 0), cond_false, ruleApply_eq _ s t (by show ([] : List Pair).length ≤ _; decide) hl ht', some_bind, ruleCheck_eq _ s s (rok 1) hl hl, some_bind, c1]
      have ap : applyR (1, no, no, bs [], ([] : List Pair), ()) s t = ((no, t, ()), 0) := rfl
      rw [ap]
      simp only [decide_true, Bool.not_true, cond_false, Bool.and_self]
      rw [within_int i1 i2, i4]
      by_cases k1 : (getS s no).2.1 = 1
      · rw [decide_eq_true k1, Bool.not_true, cond_false]
        by_cases k2 : (getS s no).2.2.1 = 1
        · rw [decide_eq_true k2, Bool.not_true, cond_false, Value11_eq _ _ (by omega), some_bind]
          by_cases hv : valC (getS s no) t = 0
          · obtain ⟨v1, v2, v3, v4, v5⟩ := (valC_iff _ t (by omega)).1 hv
            obtain ⟨_, _, _, f4, f5, _⟩ := specC_facts x1
            have f5 := f5 k2
            rw [k1, all_one] at v4
            have hmin : (getS s no).2.2.2.1 = (t.size : Int) := by omega
            have pd : padD t (getS s no).2.2.2.1 = (t, true) := by rw [hmin]; exact padD_same (by omega) (by omega) v4
            have c4 : ruleC (4, no, no, bs [], ([] : List Pair), ()) s s = 0 := by
              unfold ruleC endsE textE kindC
              rw [show (hasS s ((4, no, no, bs [], ([] : List Pair), ()) : Rule).2.1) = true from i3]
              show (bif padS (getS s no) && padS (getS s no) then (0 : Int) else 6) = 0
              unfold padS
              rw [decide_eq_true k1, decide_eq_true k2]; rfl
            have ap4 : applyR (4, no, no, bs [], ([] : List Pair), ()) s t = ((no, t, ()), 0) := by
              show (bif !hasS s no then (val0, (9 : Int)) else bif !(padD t (getS s no).2.2.2.1).2 then (val0, 5) else ((no, (padD t (getS s no).2.2.2.1).1, ()), 0)) = _
              rw [i3, pd]; rfl
            rw [decide_eq_true hv, Bool.not_true, cond_false, ruleApply_eq _ s t (by show ([] : List Pair).length ≤ _; decide) hl ht', some_bind, ruleCheck_eq _ s s (rok 4) hl hl, some_bind, c4, ap4]
            simp
          · rw [decide_eq_false hv]; rfl
        · rw [decide_eq_false k2]; rfl
      · rw [decide_eq_false k1]; rfl
  · rw [decide_eq_false hk]; rfl
end Groat
set_option linter.unusedVariables false
set_option linter.unusedSimpArgs false
set_option maxRecDepth 100000
namespace Go.Proofs.YtkecopkmmcgciaaDoor
open Go Go.Ref Groat
abbrev y0 : Go.Ref.Ty := (.pair (.sl 53 (.pair .str (.pair .str .unit))) .unit)
abbrev y1 : Go.Ref.Ty := (.pair (.int .i64) (.pair (.int .i64) (.pair (.int .i64) .unit)))
abbrev y2 : Go.Ref.Ty := (.pair .str y0)
abbrev y3 : Go.Ref.Ty := (.pair (.int .i64) y1)
abbrev y4 : Go.Ref.Ty := (.pair (.int .i64) y2)
abbrev y5 : Go.Ref.Ty := (.pair (.int .i64) y3)
abbrev y6 : Go.Ref.Ty := (.pair (.int .i64) y4)
abbrev y7 : Go.Ref.Ty := (.pair (.int .i64) y6)
abbrev y8 : Go.Ref.Ty := (.pair (.sl 48 y5) .unit)
abbrev y9 : Go.Ref.Ty := (.pair (.int .i64) y8)
abbrev y10 : Go.Ref.Ty := (.pair (.int .i64) y9)
def tys : List (Option Ty) := [none, none, some (.int .i64), some (.int .i64), some .bool, some (.int .u8), some (.int .u8), some (.pair (.int .i64) (.pair (.int .i64) (.pair .bool (.pair (.int .u8) .unit)))), some (.pair (.int .i64) (.pair (.int .i64) (.pair .bool (.pair (.int .u8) .unit)))), some .str, some .str, some .str, some (.int .u64), none, none, none, none, none, none, none, none, some (.int .i32), some (.sl 53 (.pair .str (.pair .str .unit))), some y7, some y7, some (.sl 48 y5), some y10, some y10, none, none, some (.int .i64), none, none, none, none, none, some (.pair (.int .i64) (.pair .str .unit)), some (.pair (.int .i64) (.pair .str .unit)), none, none, none, none, none, some (.arr 2 y10), none, none, none, some y5, some y5, none, none, none, some (.pair .str (.pair .str .unit)), some (.pair .str (.pair .str .unit)), none, none, none, none, none, none, none, none, none, none, none, none, none, none, none, none, none, some (.sl 92 (.pair (.int .i64) (.pair .str .unit))), none, none, some (.sl 76 (.sl 3 (.int .i64))), none, some (.sl 3 (.int .i64)), none, none, none, none, none, none, none, none, none, none, none, none, none, none, some (.pair (.int .i64) (.pair .str .unit)), some (.pair (.int .i64) (.pair .str .unit)), none, none, none, none, none, none, none, some (.int .u64), none, none, none, none, some (.sl 5 (.int .u8)), none, none, none, none, none, none, none, none, none, none, some (.arr 256 .bool), some (.arr 256 .bool), none, none, none, none, none, some (.int .u32), none, none, some (.int .u64), none, none, none, none, none, none, none, none, none, none, some (.arr 256 (.int .u8)), some (.pair (.int .u8) (.pair (.int .u8) .unit)), some (.pair (.int .u8) (.pair (.int .u8) .unit)), some (.arr 16 (.pair (.int .u8) (.pair (.int .u8) .unit))), none, none, none, none, none, none, none, none, some (.int .u8), some (.int .u8), none, some (.int .i32), some (.int .i32), none, none]
def bts : List Nat := [0, 8, 8, 8, 1, 1, 1, 24, 24, 16, 16, 16, 8, 24, 24, 8, 8, 8, 8, 8, 16, 4, 24, 64, 64, 24, 40, 40, 8, 8, 8, 8, 8, 8, 8, 8, 24, 24, 0, 8, 0, 8, 8, 80, 8, 8, 8, 40, 40, 8, 8, 8, 32, 32, 0, 8, 8, 8, 8, 8, 8, 0, 8, 0, 8, 0, 8, 8, 8, 8, 8, 24, 0, 8, 24, 8, 24, 8, 8, 0, 8, 0, 8, 8, 8, 8, 8, 8, 0, 8, 8, 24, 24, 8, 8, 8, 8, 0, 8, 8, 8, 0, 8, 8, 8, 24, 32, 32, 8, 16, 16, 0, 8, 8, 8, 8, 256, 256, 0, 8, 8, 8, 8, 4, 0, 8, 8, 0, 8, 8, 0, 8, 8, 8, 8, 8, 8, 256, 2, 2, 32, 8, 8, 8, 40, 40, 0, 0, 0, 1, 1, 8, 4, 4, 48, 48]
def pts : List Bool := [false, false, false, false, false, false, false, false, false, false, false, false, false, false, false, true, true, true, false, false, false, false, false, false, false, false, false, false, false, false, false, false, false, false, false, false, false, false, false, false, false, false, false, false, false, false, false, false, false, false, false, false, false, false, false, false, false, false, false, false, false, false, false, false, false, false, false, false, false, false, false, false, false, false, false, false, false, false, false, false, false, false, false, false, false, false, false, false, false, false, false, false, false, false, false, false, false, false, false, false, false, false, false, false, true, false, false, false, false, false, false, false, false, false, false, false, false, false, false, false, false, true, false, false, false, false, false, false, false, true, false, false, false, false, false, false, false, false, false, false, false, false, false, false, false, false, false, false, false, false, false, false, false, false, false, false]
def mps : List (TypeId × TypeId × TypeId) := [(96, 3, 4), (99, 9, 4)]
def tab : Tab := ⟨tys, bts, pts, mps⟩
theorem tab_ok : tab.ok Tryd.prog = true := by kernel_rfl
theorem mixed : Tryd.prog.follows .mixedOrders = true := by kernel_rfl
def Tb0 : Funs := Funs.none
theorem Tb0_nat : Tb0.Nat := none_nat
theorem Tb0_owes : ∀ f, Owes Tryd.prog Tb0 f := none_owes
noncomputable abbrev groatref14_both_c : Code := Tryd.f36.body.getD .skip
def groatref14_both_E : Env := tab.env (fun _ => []) (fun _ => []) [] []
theorem groatref14_both_t (R : Type) (kk : Nat)  (K : List SV → Option Box → Option R) : evFn groatref14_both_E (Tb0 R) kk Tryd.f36 groatref14_both_c [] none K =
  groatref14_both_s0 (fun a0 => K [.dat (.sl 76 (.sl 3 (.int .i64))) a0 [[]]] none) := by kernel_rfl
theorem groatref14_both_eq (R : Type)  (K : List SV → Option Box → Option R) : evFn groatref14_both_E (Tb0 R) FUEL Tryd.f36 groatref14_both_c [] none K = (groatref14_both).bind fun r => K [.dat (.sl 76 (.sl 3 (.int .i64))) r [[]]] none := by
  rw [groatref14_both_t]
  simp only [groatref14_both, groatref14_both_s0_bind, cond_bind, within_bind, none_bind, some_bind, sum_bind, bind_bind, Sum.elim_inl, Sum.elim_inr]
def groatref14_both_g : Pure := fun R l b K => noBox b (args0 l ((groatref14_both).bind fun r => K [.dat (.sl 76 (.sl 3 (.int .i64))) r [[]]] none))
theorem groatref14_both_n : groatref14_both_g.Nat := fun R S l b F G K h => noBox_nat (args0_nat (bindr_nat fun _ => h _ _))
def Tb1 : Funs := Tb0.add 36 [] groatref14_both_g
theorem Tb1_nat : Tb1.Nat := add_nat Tb0_nat groatref14_both_n
theorem Tb1_owes : ∀ f, Owes Tryd.prog Tb1 f := add_owes (E := groatref14_both_E) (Tab.env_ok tab_ok _ _ _ _) mixed Tb0_nat Tb0_owes (fn := Tryd.f36) (code := groatref14_both_c) Tryd.func36 (by kernel_rfl) (by kernel_rfl) fun l b r b' h => by
  obtain ⟨rfl, h⟩ := noBox_some h
  obtain ⟨h1, h2⟩ := own0 (E := groatref14_both_E) rfl h
  exact ⟨FUEL, (h2 _ _ _ _ _ _).trans ((groatref14_both_eq _  _).trans h1)⟩
noncomputable abbrev groatref14_Schema_c : Code := Tryd.f18.body.getD .skip
def groatref14_Schema_E : Env := tab.env (fun i => bif Nat.beq i 4 then [0, 2, 3, 4, 5] else []) (fun i => bif Nat.beq i 4 then [2, 3] else []) [2] [(.int .i64)]
def groatref14_Schema_h0 (which_0 : Int) (t4 : (List (List Int))) (t5 : Int) (bt2 : (Int × Int × (List (Int × Int × Int × Int × Int × Unit)) × Unit)) (bt3 : (Int × Int × (List (Int × Int × Int × Int × Int × Unit)) × Unit)) : State := ⟨[[.dat (.int .i64) which_0 []], [.undef], [.ptr 3 y10 []], [.ptr 4 y10 []], [.dat (.sl 76 (.sl 3 (.int .i64))) t4 [[]]], [.dat (.int .i64) t5 []], [.undef], [.undef], [.undef], [.undef], [.undef], [.undef], [.undef], [.undef], [.undef], [.undef], [.undef], [.undef], [.undef], [.undef], [.undef], [.undef], [.undef], [.undef], [.undef], [.undef], [.undef], [.undef], [.undef], [.undef], [.undef], [.undef], [.undef], [.undef], [.undef], [.undef], [.undef], [.undef], [.undef], [.undef], [.undef], [.undef], [.undef], [.undef], [.undef], [.undef], [.undef], [.undef], [.undef], [.undef], [.undef], [.undef], [.undef], [.undef], [.undef], [.undef], [.undef], [.undef]], [none, none, none, some ⟨y10, bt2, [[2]]⟩, some ⟨y10, bt3, [[2]]⟩, none, none, none, none, none, none, none, none, none, none, none, none, none, none, none, none, none, none, none, none, none, none, none, none, none, none, none, none, none, none, none, none, none, none, none, none, none, none, none, none, none, none, none, none, none, none, none, none, none, none, none, none, none, none]⟩
def groatref14_Schema_x0_0 (bt2 : (Int × Int × (List (Int × Int × Int × Int × Int × Unit)) × Unit)) (bt3 : (Int × Int × (List (Int × Int × Int × Int × Int × Unit)) × Unit)) : State := ⟨[[.undef], [.undef], [.ptr 3 y10 []], [.ptr 4 y10 []], [.undef], [.undef], [.undef], [.undef], [.undef], [.undef], [.undef], [.undef], [.undef], [.undef], [.undef], [.undef], [.undef], [.undef], [.undef], [.undef], [.undef], [.undef], [.undef], [.undef], [.undef], [.undef], [.undef], [.undef], [.undef], [.undef], [.undef], [.undef], [.undef], [.undef], [.undef], [.undef], [.undef], [.undef], [.undef], [.undef], [.undef], [.undef], [.undef], [.undef], [.undef], [.undef], [.undef], [.undef], [.undef], [.undef], [.undef], [.undef], [.undef], [.undef], [.undef], [.undef], [.undef], [.undef]], [none, none, none, some ⟨y10, bt2, [[2]]⟩, some ⟨y10, bt3, [[2]]⟩, none, none, none, none, none, none, none, none, none, none, none, none, none, none, none, none, none, none, none, none, none, none, none, none, none, none, none, none, none, none, none, none, none, none, none, none, none, none, none, none, none, none, none, none, none, none, none, none, none, none, none, none, none, none]⟩
theorem groatref14_Schema_t (R : Type) (kk : Nat) (which_0 : Int) (K : List SV → Option Box → Option R) : evFn groatref14_Schema_E (Tb1 R) kk Tryd.f18 groatref14_Schema_c [.dat (.int .i64) which_0 []] none K =
  groatref14_Schema_s0 which_0 (fun a0 a1 a2 a3 a4 => loopR (ev groatref14_Schema_E (Tb1 R) kk (sub [1, 1, 1, 0, 1, 0, 0] groatref14_Schema_c)) [0, 2, 3, 4, 5] [2, 3] kk (groatref14_Schema_h0 a0 a1 a2 a3 a4) (kBlock 0 (kSeq groatref14_Schema_E (Tb1 R) kk (sub [1, 1, 1, 1] groatref14_Schema_c) (kFin groatref14_Schema_E Tryd.f18.results.toList none K)))) := by kernel_rfl
theorem groatref14_Schema_d0 (R : Type) (kk k : Nat) (which_0 : Int) (t4 : (List (List Int))) (t5 : Int) (bt2 : (Int × Int × (List (Int × Int × Int × Int × Int × Unit)) × Unit)) (bt3 : (Int × Int × (List (Int × Int × Int × Int × Int × Unit)) × Unit)) (K : Ex → State → Option R) : loopR (ev groatref14_Schema_E (Tb1 R) kk (sub [1, 1, 1, 0, 1, 0, 0] groatref14_Schema_c)) [0, 2, 3, 4, 5] [2, 3] (k + 1) (groatref14_Schema_h0 which_0 t4 t5 bt2 bt3) K =
  groatref14_Schema_s1 which_0 t4 t5 bt2 bt3 (fun a0 a1 a2 a3 a4 => loopR (ev groatref14_Schema_E (Tb1 R) kk (sub [1, 1, 1, 0, 1, 0, 0] groatref14_Schema_c)) [0, 2, 3, 4, 5] [2, 3] k (groatref14_Schema_h0 a0 a1 a2 a3 a4) K) (fun a0 a1 => K (.exit 0) (groatref14_Schema_x0_0 a0 a1)) := by kernel_rfl
theorem groatref14_Schema_y0_0 (R : Type) (kk : Nat) (bt2 : (Int × Int × (List (Int × Int × Int × Int × Int × Unit)) × Unit)) (bt3 : (Int × Int × (List (Int × Int × Int × Int × Int × Unit)) × Unit)) (K : List SV → Option Box → Option R) : (kBlock 0 (kSeq groatref14_Schema_E (Tb1 R) kk (sub [1, 1, 1, 1] groatref14_Schema_c) (kFin groatref14_Schema_E Tryd.f18.results.toList none K))) (.exit 0) (groatref14_Schema_x0_0 bt2 bt3) =
  groatref14_Schema_s2 bt2 bt3 (fun a0 => K [.dat y10 a0 [[2]]] none) := by kernel_rfl
theorem groatref14_Schema_lp0 (R : Type) (k : Nat) (which_0 : Int) (t4 : (List (List Int))) (t5 : Int) (bt2 : (Int × Int × (List (Int × Int × Int × Int × Int × Unit)) × Unit)) (bt3 : (Int × Int × (List (Int × Int × Int × Int × Int × Unit)) × Unit)) (K : Ex → State → Option R) : loopR (ev groatref14_Schema_E (Tb1 R) FUEL (sub [1, 1, 1, 0, 1, 0, 0] groatref14_Schema_c)) [0, 2, 3, 4, 5] [2, 3] k (groatref14_Schema_h0 which_0 t4 t5 bt2 bt3) K = (groatref14_Schema_l0 k which_0 t4 t5 bt2 bt3).bind fun e => K (.exit 0) (groatref14_Schema_x0_0 e.1 e.2) := by
  induction k generalizing which_0 t4 t5 bt2 bt3 with
  | zero => rfl
  | succ k ih =>
    rw [groatref14_Schema_d0]
    simp only [groatref14_Schema_l0, groatref14_Schema_s0_bind, groatref14_Schema_s1_bind, groatref14_Schema_s2_bind, ih, cond_bind, within_bind, none_bind, some_bind, sum_bind, bind_bind, Sum.elim_inl, Sum.elim_inr]
theorem groatref14_Schema_eq (R : Type) (which_0 : Int) (K : List SV → Option Box → Option R) : evFn groatref14_Schema_E (Tb1 R) FUEL Tryd.f18 groatref14_Schema_c [.dat (.int .i64) which_0 []] none K = (groatref14_Schema which_0).bind fun r => K [.dat y10 r [[2]]] none := by
  rw [groatref14_Schema_t]
  simp only [groatref14_Schema, groatref14_Schema_s0_bind, groatref14_Schema_s1_bind, groatref14_Schema_s2_bind, groatref14_Schema_lp0, groatref14_Schema_y0_0, cond_bind, within_bind, none_bind, some_bind, sum_bind, bind_bind, Sum.elim_inl, Sum.elim_inr]
def groatref14_Schema_g : Pure := fun R l b K => noBox b (args1 (.int .i64) l (fun x0 => (groatref14_Schema x0).bind fun r => K [.dat y10 r [[2]]] none))
theorem groatref14_Schema_n : groatref14_Schema_g.Nat := fun R S l b F G K h => noBox_nat (args1_nat fun _ => bindr_nat fun _ => h _ _)
def Tb2 : Funs := Tb1.add 18 [(.int .i64)] groatref14_Schema_g
theorem Tb2_nat : Tb2.Nat := add_nat Tb1_nat groatref14_Schema_n
theorem Tb2_owes : ∀ f, Owes Tryd.prog Tb2 f := add_owes (E := groatref14_Schema_E) (Tab.env_ok tab_ok _ _ _ _) mixed Tb1_nat Tb1_owes (fn := Tryd.f18) (code := groatref14_Schema_c) Tryd.func18 (by kernel_rfl) (by kernel_rfl) fun l b r b' h => by
  obtain ⟨rfl, h⟩ := noBox_some h
  obtain ⟨x0, h1, h2⟩ := own1 (E := groatref14_Schema_E) rfl h
  exact ⟨FUEL, (h2 _ _ _ _ _ _).trans ((groatref14_Schema_eq _ x0 _).trans h1)⟩
noncomputable abbrev schema_Find_c : Code := Tryd.f27.body.getD .skip
def schema_Find_E : Env := tab.env (fun i => bif Nat.beq i 2 then [1, 4, 9, 10, 11] else []) (fun i => bif Nat.beq i 2 then [4, 5] else []) [4] [y10, (.int .i64)]
def schema_Find_h0 (no_1 : Int) (t9 : (List (Int × Int × Int × Int × Int × Unit))) (t10 : Int) (t11 : Int) (bt4 : (Int × Int × Int × Int × Int × Unit)) : State := ⟨[[.undef], [.dat (.int .i64) no_1 []], [.undef], [.undef], [.ptr 5 y5 []], [.undef], [.undef], [.undef], [.undef], [.dat (.sl 48 y5) t9 []], [.dat (.int .i64) t10 []], [.dat (.int .i64) t11 []], [.undef], [.undef], [.undef], [.undef], [.undef], [.undef], [.undef], [.undef], [.undef], [.undef]], [none, none, none, none, none, some ⟨y5, bt4, []⟩, none, none, none, none, none, none, none, none, none, none, none, none, none, none, none, none, none]⟩
def schema_Find_x0_0 (t5 : Bool) (bt4 : (Int × Int × Int × Int × Int × Unit)) : State := ⟨[[.undef], [.undef], [.undef], [.undef], [.ptr 5 y5 []], [.dat .bool t5 []], [.undef], [.undef], [.undef], [.undef], [.undef], [.undef], [.undef], [.undef], [.undef], [.undef], [.undef], [.undef], [.undef], [.undef], [.undef], [.undef]], [none, none, none, none, none, some ⟨y5, bt4, []⟩, none, none, none, none, none, none, none, none, none, none, none, none, none, none, none, none, none]⟩
def schema_Find_x0_1 (bt4 : (Int × Int × Int × Int × Int × Unit)) : State := ⟨[[.undef], [.undef], [.undef], [.undef], [.ptr 5 y5 []], [.undef], [.undef], [.undef], [.undef], [.undef], [.undef], [.undef], [.undef], [.undef], [.undef], [.undef], [.undef], [.undef], [.undef], [.undef], [.undef], [.undef]], [none, none, none, none, none, some ⟨y5, bt4, []⟩, none, none, none, none, none, none, none, none, none, none, none, none, none, none, none, none, none]⟩
theorem schema_Find_t (R : Type) (kk : Nat) (s_0 : (Int × Int × (List (Int × Int × Int × Int × Int × Unit)) × Unit)) (no_1 : Int) (K : List SV → Option Box → Option R) : evFn schema_Find_E (Tb2 R) kk Tryd.f27 schema_Find_c [.dat y10 s_0 [], .dat (.int .i64) no_1 []] none K =
  schema_Find_s0 s_0 no_1 (fun a0 a1 a2 a3 a4 => loopR (ev schema_Find_E (Tb2 R) kk (sub [1, 0, 1, 0, 0] schema_Find_c)) [1, 4, 9, 10, 11] [4, 5] kk (schema_Find_h0 a0 a1 a2 a3 a4) (kBlock 0 (kSeq schema_Find_E (Tb2 R) kk (sub [1, 1] schema_Find_c) (kFin schema_Find_E Tryd.f27.results.toList none K)))) := by kernel_rfl
theorem schema_Find_d0 (R : Type) (kk k : Nat) (no_1 : Int) (t9 : (List (Int × Int × Int × Int × Int × Unit))) (t10 : Int) (t11 : Int) (bt4 : (Int × Int × Int × Int × Int × Unit)) (K : Ex → State → Option R) : loopR (ev schema_Find_E (Tb2 R) kk (sub [1, 0, 1, 0, 0] schema_Find_c)) [1, 4, 9, 10, 11] [4, 5] (k + 1) (schema_Find_h0 no_1 t9 t10 t11 bt4) K =
  schema_Find_s1 no_1 t9 t10 t11 bt4 (fun a0 a1 => K .ret (schema_Find_x0_0 a0 a1)) (fun a0 a1 a2 a3 a4 => loopR (ev schema_Find_E (Tb2 R) kk (sub [1, 0, 1, 0, 0] schema_Find_c)) [1, 4, 9, 10, 11] [4, 5] k (schema_Find_h0 a0 a1 a2 a3 a4) K) (fun a0 => K (.exit 0) (schema_Find_x0_1 a0)) := by kernel_rfl
theorem schema_Find_y0_0 (R : Type) (kk : Nat) (t5 : Bool) (bt4 : (Int × Int × Int × Int × Int × Unit)) (K : List SV → Option Box → Option R) : (kBlock 0 (kSeq schema_Find_E (Tb2 R) kk (sub [1, 1] schema_Find_c) (kFin schema_Find_E Tryd.f27.results.toList none K))) .ret (schema_Find_x0_0 t5 bt4) =
  schema_Find_s2 t5 bt4 (fun a0 a1 => K [.dat y5 a0 [], .dat .bool a1 []] none) := by kernel_rfl
theorem schema_Find_y0_1 (R : Type) (kk : Nat) (bt4 : (Int × Int × Int × Int × Int × Unit)) (K : List SV → Option Box → Option R) : (kBlock 0 (kSeq schema_Find_E (Tb2 R) kk (sub [1, 1] schema_Find_c) (kFin schema_Find_E Tryd.f27.results.toList none K))) (.exit 0) (schema_Find_x0_1 bt4) =
  schema_Find_s3 bt4 (fun a0 a1 => K [.dat y5 a0 [], .dat .bool a1 []] none) := by kernel_rfl
theorem schema_Find_lp0 (R : Type) (k : Nat) (no_1 : Int) (t9 : (List (Int × Int × Int × Int × Int × Unit))) (t10 : Int) (t11 : Int) (bt4 : (Int × Int × Int × Int × Int × Unit)) (K : Ex → State → Option R) : loopR (ev schema_Find_E (Tb2 R) FUEL (sub [1, 0, 1, 0, 0] schema_Find_c)) [1, 4, 9, 10, 11] [4, 5] k (schema_Find_h0 no_1 t9 t10 t11 bt4) K = (schema_Find_l0 k no_1 t9 t10 t11 bt4).bind fun e => (Sum.elim (fun (we : (Bool × (Int × Int × Int × Int × Int × Unit))) => K .ret (schema_Find_x0_0 we.1 we.2)) (fun (we : (Int × Int × Int × Int × Int × Unit)) => K (.exit 0) (schema_Find_x0_1 we)) e) := by
  induction k generalizing no_1 t9 t10 t11 bt4 with
  | zero => rfl
  | succ k ih =>
    rw [schema_Find_d0]
    simp only [schema_Find_l0, schema_Find_s0_bind, schema_Find_s1_bind, schema_Find_s2_bind, schema_Find_s3_bind, ih, cond_bind, within_bind, none_bind, some_bind, sum_bind, bind_bind, Sum.elim_inl, Sum.elim_inr]
theorem schema_Find_eq (R : Type) (s_0 : (Int × Int × (List (Int × Int × Int × Int × Int × Unit)) × Unit)) (no_1 : Int) (K : List SV → Option Box → Option R) : evFn schema_Find_E (Tb2 R) FUEL Tryd.f27 schema_Find_c [.dat y10 s_0 [], .dat (.int .i64) no_1 []] none K = (schema_Find s_0 no_1).bind fun r => K [.dat y5 r.1 [], .dat .bool r.2 []] none := by
  rw [schema_Find_t]
  simp only [schema_Find, schema_Find_s0_bind, schema_Find_s1_bind, schema_Find_s2_bind, schema_Find_s3_bind, schema_Find_lp0, schema_Find_y0_0, schema_Find_y0_1, cond_bind, within_bind, none_bind, some_bind, sum_bind, bind_bind, Sum.elim_inl, Sum.elim_inr]
def schema_Find_g : Pure := fun R l b K => noBox b (args2 y10 (.int .i64) l (fun x0 x1 => (schema_Find x0 x1).bind fun r => K [.dat y5 r.1 [], .dat .bool r.2 []] none))
theorem schema_Find_n : schema_Find_g.Nat := fun R S l b F G K h => noBox_nat (args2_nat fun _ _ => bindr_nat fun _ => h _ _)
def Tb3 : Funs := Tb2.add 27 [y10, (.int .i64)] schema_Find_g
theorem Tb3_nat : Tb3.Nat := add_nat Tb2_nat schema_Find_n
theorem Tb3_owes : ∀ f, Owes Tryd.prog Tb3 f := add_owes (E := schema_Find_E) (Tab.env_ok tab_ok _ _ _ _) mixed Tb2_nat Tb2_owes (fn := Tryd.f27) (code := schema_Find_c) Tryd.func27 (by kernel_rfl) (by kernel_rfl) fun l b r b' h => by
  obtain ⟨rfl, h⟩ := noBox_some h
  obtain ⟨x0, x1, h1, h2⟩ := own2 (E := schema_Find_E) rfl h
  exact ⟨FUEL, (h2 _ _ _ _ _ _).trans ((schema_Find_eq _ x0 x1 _).trans h1)⟩
noncomputable abbrev digits_All_c : Code := Tryd.f44.body.getD .skip
def digits_All_E : Env := tab.env (fun i => bif Nat.beq i 2 then [6] else []) (fun i => bif Nat.beq i 2 then [2] else []) [] [.str]
def digits_All_h0 (bt6 : (ByteArray × Nat)) : State := ⟨[[.undef], [.undef], [.undef], [.undef], [.undef], [.undef], [.ptr 7 (.spc .iter .unit .unit) []], [.undef], [.undef], [.undef], [.undef], [.undef], [.undef], [.undef], [.undef], [.undef]], [none, none, none, none, none, none, none, some ⟨(.spc .iter .unit .unit), bt6, []⟩, none, none, none, none, none, none, none, none, none]⟩
def digits_All_x0_0 (t2 : Bool) : State := ⟨[[.undef], [.undef], [.dat .bool t2 []], [.undef], [.undef], [.undef], [.undef], [.undef], [.undef], [.undef], [.undef], [.undef], [.undef], [.undef], [.undef], [.undef]], [none, none, none, none, none, none, none, none, none, none, none, none, none, none, none, none, none]⟩
def digits_All_x0_1  : State := ⟨[[.undef], [.undef], [.undef], [.undef], [.undef], [.undef], [.undef], [.undef], [.undef], [.undef], [.undef], [.undef], [.undef], [.undef], [.undef], [.undef]], [none, none, none, none, none, none, none, none, none, none, none, none, none, none, none, none, none]⟩
theorem digits_All_t (R : Type) (kk : Nat) (s_0 : ByteArray) (K : List SV → Option Box → Option R) : evFn digits_All_E (Tb3 R) kk Tryd.f44 digits_All_c [.dat .str s_0 []] none K =
  digits_All_s0 s_0 (fun a0 => loopR (ev digits_All_E (Tb3 R) kk (sub [1, 0, 1, 0, 0] digits_All_c)) [6] [2] kk (digits_All_h0 a0) (kBlock 0 (kSeq digits_All_E (Tb3 R) kk (sub [1, 1] digits_All_c) (kFin digits_All_E Tryd.f44.results.toList none K)))) := by kernel_rfl
theorem digits_All_d0 (R : Type) (kk k : Nat) (bt6 : (ByteArray × Nat)) (K : Ex → State → Option R) : loopR (ev digits_All_E (Tb3 R) kk (sub [1, 0, 1, 0, 0] digits_All_c)) [6] [2] (k + 1) (digits_All_h0 bt6) K =
  digits_All_s1 bt6 (fun a0 => K .ret (digits_All_x0_0 a0)) (fun a0 => loopR (ev digits_All_E (Tb3 R) kk (sub [1, 0, 1, 0, 0] digits_All_c)) [6] [2] k (digits_All_h0 a0) K) (K (.exit 0) (digits_All_x0_1)) := by kernel_rfl
theorem digits_All_y0_0 (R : Type) (kk : Nat) (t2 : Bool) (K : List SV → Option Box → Option R) : (kBlock 0 (kSeq digits_All_E (Tb3 R) kk (sub [1, 1] digits_All_c) (kFin digits_All_E Tryd.f44.results.toList none K))) .ret (digits_All_x0_0 t2) =
  digits_All_s2 t2 (fun a0 => K [.dat .bool a0 []] none) := by kernel_rfl
theorem digits_All_y0_1 (R : Type) (kk : Nat)  (K : List SV → Option Box → Option R) : (kBlock 0 (kSeq digits_All_E (Tb3 R) kk (sub [1, 1] digits_All_c) (kFin digits_All_E Tryd.f44.results.toList none K))) (.exit 0) (digits_All_x0_1) =
  digits_All_s3 (fun a0 => K [.dat .bool a0 []] none) := by kernel_rfl
theorem digits_All_lp0 (R : Type) (k : Nat) (bt6 : (ByteArray × Nat)) (K : Ex → State → Option R) : loopR (ev digits_All_E (Tb3 R) FUEL (sub [1, 0, 1, 0, 0] digits_All_c)) [6] [2] k (digits_All_h0 bt6) K = (digits_All_l0 k bt6).bind fun e => (Sum.elim (fun (we : Bool) => K .ret (digits_All_x0_0 we)) (fun (we : Unit) => K (.exit 0) (digits_All_x0_1)) e) := by
  induction k generalizing bt6 with
  | zero => rfl
  | succ k ih =>
    rw [digits_All_d0]
    simp only [digits_All_l0, digits_All_s0_bind, digits_All_s1_bind, digits_All_s2_bind, digits_All_s3_bind, ih, cond_bind, within_bind, none_bind, some_bind, sum_bind, bind_bind, Sum.elim_inl, Sum.elim_inr]
theorem digits_All_eq (R : Type) (s_0 : ByteArray) (K : List SV → Option Box → Option R) : evFn digits_All_E (Tb3 R) FUEL Tryd.f44 digits_All_c [.dat .str s_0 []] none K = (digits_All s_0).bind fun r => K [.dat .bool r []] none := by
  rw [digits_All_t]
  simp only [digits_All, digits_All_s0_bind, digits_All_s1_bind, digits_All_s2_bind, digits_All_s3_bind, digits_All_lp0, digits_All_y0_0, digits_All_y0_1, cond_bind, within_bind, none_bind, some_bind, sum_bind, bind_bind, Sum.elim_inl, Sum.elim_inr]
def digits_All_g : Pure := fun R l b K => noBox b (args1 .str l (fun x0 => (digits_All x0).bind fun r => K [.dat .bool r []] none))
theorem digits_All_n : digits_All_g.Nat := fun R S l b F G K h => noBox_nat (args1_nat fun _ => bindr_nat fun _ => h _ _)
def Tb4 : Funs := Tb3.add 44 [.str] digits_All_g
theorem Tb4_nat : Tb4.Nat := add_nat Tb3_nat digits_All_n
theorem Tb4_owes : ∀ f, Owes Tryd.prog Tb4 f := add_owes (E := digits_All_E) (Tab.env_ok tab_ok _ _ _ _) mixed Tb3_nat Tb3_owes (fn := Tryd.f44) (code := digits_All_c) Tryd.func44 (by kernel_rfl) (by kernel_rfl) fun l b r b' h => by
  obtain ⟨rfl, h⟩ := noBox_some h
  obtain ⟨x0, h1, h2⟩ := own1 (E := digits_All_E) rfl h
  exact ⟨FUEL, (h2 _ _ _ _ _ _).trans ((digits_All_eq _ x0 _).trans h1)⟩
def Tryd.laysRepeat_ren : Go.Shelf.Ren := ⟨fun | 105 => 45 | 212 => 59 | 99 => 60 | 165 => 61 | 166 => 62 | 170 => 63 | 169 => 64 | 263 => 78 | 264 => 79 | 206 => 80 | 240 => 81 | 241 => 82 | 276 => 87 | 277 => 88 | n => n, fun | 9 => 9 | 3 => 3 | 4 => 4 | 20 => 20 | 0 => 0 | 46 => 100 | 109 => 101 | 5 => 5 | 72 => 107 | 76 => 111 | 51 => 123 | 146 => 124 | 53 => 126 | 148 => 127 | 70 => 104 | 37 => 105 | 75 => 110 | 127 => 129 | 164 => 133 | 80 => 114 | n => n, fun n => n⟩
theorem Tryd.laysRepeat : Go.Proofs.Lays.n105 Go.Proofs.Tryd.prog Tryd.laysRepeat_ren := {
  mixed := by kernel_rfl,
  f99 := Go.Proofs.Tryd.func60.trans (congrArg some (by kernel_rfl)),
  f105 := Go.Proofs.Tryd.func45.trans (congrArg some (by kernel_rfl)),
  f165 := Go.Proofs.Tryd.func61.trans (congrArg some (by kernel_rfl)),
  f166 := Go.Proofs.Tryd.func62.trans (congrArg some (by kernel_rfl)),
  f169 := Go.Proofs.Tryd.func64.trans (congrArg some (by kernel_rfl)),
  f170 := Go.Proofs.Tryd.func63.trans (congrArg some (by kernel_rfl)),
  f206 := Go.Proofs.Tryd.func80.trans (congrArg some (by kernel_rfl)),
  f212 := Go.Proofs.Tryd.func59.trans (congrArg some (by kernel_rfl)),
  f240 := Go.Proofs.Tryd.func81.trans (congrArg some (by kernel_rfl)),
  f241 := Go.Proofs.Tryd.func82.trans (congrArg some (by kernel_rfl)),
  f263 := Go.Proofs.Tryd.func78.trans (congrArg some (by kernel_rfl)),
  f264 := Go.Proofs.Tryd.func79.trans (congrArg some (by kernel_rfl)),
  f276 := Go.Proofs.Tryd.func87.trans (congrArg some (by kernel_rfl)),
  f277 := Go.Proofs.Tryd.func88.trans (congrArg some (by kernel_rfl)),
  t0 := Go.Proofs.Tryd.underlying0,
  a0 := Go.Proofs.Tryd.isAgg0,
  z0 := Go.Proofs.Tryd.sizeOf0,
  v0 := Go.Proofs.Tryd.zeroValue0,
  t3 := Go.Proofs.Tryd.underlying3,
  a3 := Go.Proofs.Tryd.isAgg3,
  z3 := Go.Proofs.Tryd.sizeOf3,
  v3 := Go.Proofs.Tryd.zeroValue3,
  t4 := Go.Proofs.Tryd.underlying4,
  a4 := Go.Proofs.Tryd.isAgg4,
  z4 := Go.Proofs.Tryd.sizeOf4,
  v4 := Go.Proofs.Tryd.zeroValue4,
  t5 := Go.Proofs.Tryd.underlying5,
  a5 := Go.Proofs.Tryd.isAgg5,
  z5 := Go.Proofs.Tryd.sizeOf5,
  v5 := Go.Proofs.Tryd.zeroValue5,
  t9 := Go.Proofs.Tryd.underlying9,
  a9 := Go.Proofs.Tryd.isAgg9,
  z9 := Go.Proofs.Tryd.sizeOf9,
  v9 := Go.Proofs.Tryd.zeroValue9,
  t20 := Go.Proofs.Tryd.underlying20,
  a20 := Go.Proofs.Tryd.isAgg20,
  z20 := Go.Proofs.Tryd.sizeOf20,
  v20 := Go.Proofs.Tryd.zeroValue20,
  t37 := Go.Proofs.Tryd.underlying105,
  a37 := Go.Proofs.Tryd.isAgg105,
  z37 := Go.Proofs.Tryd.sizeOf105,
  v37 := Go.Proofs.Tryd.zeroValue105,
  t46 := Go.Proofs.Tryd.underlying100,
  a46 := Go.Proofs.Tryd.isAgg100,
  z46 := Go.Proofs.Tryd.sizeOf100,
  v46 := Go.Proofs.Tryd.zeroValue100,
  t51 := Go.Proofs.Tryd.underlying123,
  a51 := Go.Proofs.Tryd.isAgg123,
  z51 := Go.Proofs.Tryd.sizeOf123,
  v51 := Go.Proofs.Tryd.zeroValue123,
  t53 := Go.Proofs.Tryd.underlying126,
  a53 := Go.Proofs.Tryd.isAgg126,
  z53 := Go.Proofs.Tryd.sizeOf126,
  v53 := Go.Proofs.Tryd.zeroValue126,
  t70 := Go.Proofs.Tryd.underlying104,
  a70 := Go.Proofs.Tryd.isAgg104,
  z70 := Go.Proofs.Tryd.sizeOf104,
  v70 := Go.Proofs.Tryd.zeroValue104,
  t72 := Go.Proofs.Tryd.underlying107,
  a72 := Go.Proofs.Tryd.isAgg107,
  z72 := Go.Proofs.Tryd.sizeOf107,
  v72 := Go.Proofs.Tryd.zeroValue107,
  t75 := Go.Proofs.Tryd.underlying110,
  a75 := Go.Proofs.Tryd.isAgg110,
  z75 := Go.Proofs.Tryd.sizeOf110,
  v75 := Go.Proofs.Tryd.zeroValue110,
  t76 := Go.Proofs.Tryd.underlying111,
  a76 := Go.Proofs.Tryd.isAgg111,
  z76 := Go.Proofs.Tryd.sizeOf111,
  v76 := Go.Proofs.Tryd.zeroValue111,
  t109 := Go.Proofs.Tryd.underlying101,
  a109 := Go.Proofs.Tryd.isAgg101,
  z109 := Go.Proofs.Tryd.sizeOf101,
  v109 := Go.Proofs.Tryd.zeroValue101,
  t127 := Go.Proofs.Tryd.underlying129,
  a127 := Go.Proofs.Tryd.isAgg129,
  z127 := Go.Proofs.Tryd.sizeOf129,
  v127 := Go.Proofs.Tryd.zeroValue129,
  t146 := Go.Proofs.Tryd.underlying124,
  a146 := Go.Proofs.Tryd.isAgg124,
  z146 := Go.Proofs.Tryd.sizeOf124,
  v146 := Go.Proofs.Tryd.zeroValue124,
  t148 := Go.Proofs.Tryd.underlying127,
  a148 := Go.Proofs.Tryd.isAgg127,
  z148 := Go.Proofs.Tryd.sizeOf127,
  v148 := Go.Proofs.Tryd.zeroValue127,
  t164 := Go.Proofs.Tryd.underlying133,
  a164 := Go.Proofs.Tryd.isAgg133,
  z164 := Go.Proofs.Tryd.sizeOf133,
  v164 := Go.Proofs.Tryd.zeroValue133 }
theorem Tryd.extraRepeat : Go.Proofs.Builder.Extra Go.Proofs.Tryd.prog Tryd.laysRepeat_ren := {
  sizeBuilder := by kernel_rfl,
  liesBuilder := by kernel_rfl,
  t5 := Tryd.laysRepeat.t5,
  a5 := Tryd.laysRepeat.a5,
  z5 := Tryd.laysRepeat.z5,
  v5 := Tryd.laysRepeat.v5,
  infoByte := by kernel_rfl,
  cellsByte := by kernel_rfl,
  sizeByte := by kernel_rfl,
  neB5 := by decide }
noncomputable abbrev strings_Repeat_c : Code := Tryd.f45.body.getD .skip
theorem strings_Repeat_ent : Ent Tryd.prog 45 := ⟨Tryd.f45, strings_Repeat_c, Tryd.func45, by kernel_rfl, by kernel_rfl⟩
def strings_Repeat_g : Pure := fun R l b K => noBox b (args2 .str (.int .i64) l fun x0 x1 => (strings_Repeat x0 x1).bind fun r => K [.dat .str r []] none)
theorem strings_Repeat_n : strings_Repeat_g.Nat := fun R S l b F G K h => noBox_nat (args2_nat fun _ _ => bindr_nat fun _ => h _ _)
def Tb5 : Funs := Tb4.add 45 [] strings_Repeat_g
theorem Tb5_nat : Tb5.Nat := add_nat Tb4_nat strings_Repeat_n
theorem Tb5_owes : ∀ f, Owes Tryd.prog Tb5 f := lib_si_s Tb4_owes strings_Repeat_ent strings_Repeat (strings_Repeat_calls Tryd.laysRepeat Tryd.extraRepeat (by kernel_rfl))
noncomputable abbrev strings_trimRightByte_c : Code := Tryd.f66.body.getD .skip
def strings_trimRightByte_E : Env := tab.env (fun i => bif Nat.beq i 1 then [0, 1] else []) (fun i => bif Nat.beq i 1 then [0] else []) [] [.str, (.int .u8)]
def strings_trimRightByte_h0 (s_0 : ByteArray) (c_1 : Int) : State := ⟨[[.dat .str s_0 []], [.dat (.int .u8) c_1 []], [.undef], [.undef], [.undef], [.undef], [.undef], [.undef], [.undef], [.undef], [.undef], [.undef], [.undef], [.undef], [.undef], [.undef], [.undef], [.undef], [.undef], [.undef], [.undef], [.undef], [.undef]], [none, none, none, none, none, none, none, none, none, none, none, none, none, none, none, none, none, none, none, none, none, none, none, none]⟩
def strings_trimRightByte_x0_0 (s_0 : ByteArray) : State := ⟨[[.dat .str s_0 []], [.undef], [.undef], [.undef], [.undef], [.undef], [.undef], [.undef], [.undef], [.undef], [.undef], [.undef], [.undef], [.undef], [.undef], [.undef], [.undef], [.undef], [.undef], [.undef], [.undef], [.undef], [.undef]], [none, none, none, none, none, none, none, none, none, none, none, none, none, none, none, none, none, none, none, none, none, none, none, none]⟩
theorem strings_trimRightByte_t (R : Type) (kk : Nat) (s_0 : ByteArray) (c_1 : Int) (K : List SV → Option Box → Option R) : evFn strings_trimRightByte_E (Tb5 R) kk Tryd.f66 strings_trimRightByte_c [.dat .str s_0 [], .dat (.int .u8) c_1 []] none K =
  strings_trimRightByte_s0 s_0 c_1 (fun a0 a1 => loopR (ev strings_trimRightByte_E (Tb5 R) kk (sub [1, 0, 0, 0] strings_trimRightByte_c)) [0, 1] [0] kk (strings_trimRightByte_h0 a0 a1) (kBlock 0 (kSeq strings_trimRightByte_E (Tb5 R) kk (sub [1, 1] strings_trimRightByte_c) (kFin strings_trimRightByte_E Tryd.f66.results.toList none K)))) := by kernel_rfl
theorem strings_trimRightByte_d0 (R : Type) (kk k : Nat) (s_0 : ByteArray) (c_1 : Int) (K : Ex → State → Option R) : loopR (ev strings_trimRightByte_E (Tb5 R) kk (sub [1, 0, 0, 0] strings_trimRightByte_c)) [0, 1] [0] (k + 1) (strings_trimRightByte_h0 s_0 c_1) K =
  strings_trimRightByte_s1 s_0 c_1 (fun a0 a1 => loopR (ev strings_trimRightByte_E (Tb5 R) kk (sub [1, 0, 0, 0] strings_trimRightByte_c)) [0, 1] [0] k (strings_trimRightByte_h0 a0 a1) K) (fun a0 => K (.exit 0) (strings_trimRightByte_x0_0 a0)) := by kernel_rfl
theorem strings_trimRightByte_y0_0 (R : Type) (kk : Nat) (s_0 : ByteArray) (K : List SV → Option Box → Option R) : (kBlock 0 (kSeq strings_trimRightByte_E (Tb5 R) kk (sub [1, 1] strings_trimRightByte_c) (kFin strings_trimRightByte_E Tryd.f66.results.toList none K))) (.exit 0) (strings_trimRightByte_x0_0 s_0) =
  strings_trimRightByte_s2 s_0 (fun a0 => K [.dat .str a0 []] none) := by kernel_rfl
theorem strings_trimRightByte_lp0 (R : Type) (k : Nat) (s_0 : ByteArray) (c_1 : Int) (K : Ex → State → Option R) : loopR (ev strings_trimRightByte_E (Tb5 R) FUEL (sub [1, 0, 0, 0] strings_trimRightByte_c)) [0, 1] [0] k (strings_trimRightByte_h0 s_0 c_1) K = (strings_trimRightByte_l0 k s_0 c_1).bind fun e => K (.exit 0) (strings_trimRightByte_x0_0 e) := by
  induction k generalizing s_0 c_1 with
  | zero => rfl
  | succ k ih =>
    rw [strings_trimRightByte_d0]
    simp only [strings_trimRightByte_l0, strings_trimRightByte_s0_bind, strings_trimRightByte_s1_bind, strings_trimRightByte_s2_bind, ih, cond_bind, within_bind, none_bind, some_bind, sum_bind, bind_bind, Sum.elim_inl, Sum.elim_inr]
theorem strings_trimRightByte_eq (R : Type) (s_0 : ByteArray) (c_1 : Int) (K : List SV → Option Box → Option R) : evFn strings_trimRightByte_E (Tb5 R) FUEL Tryd.f66 strings_trimRightByte_c [.dat .str s_0 [], .dat (.int .u8) c_1 []] none K = (strings_trimRightByte s_0 c_1).bind fun r => K [.dat .str r []] none := by
  rw [strings_trimRightByte_t]
  simp only [strings_trimRightByte, strings_trimRightByte_s0_bind, strings_trimRightByte_s1_bind, strings_trimRightByte_s2_bind, strings_trimRightByte_lp0, strings_trimRightByte_y0_0, cond_bind, within_bind, none_bind, some_bind, sum_bind, bind_bind, Sum.elim_inl, Sum.elim_inr]
def strings_trimRightByte_g : Pure := fun R l b K => noBox b (args2 .str (.int .u8) l (fun x0 x1 => (strings_trimRightByte x0 x1).bind fun r => K [.dat .str r []] none))
theorem strings_trimRightByte_n : strings_trimRightByte_g.Nat := fun R S l b F G K h => noBox_nat (args2_nat fun _ _ => bindr_nat fun _ => h _ _)
def Tb6 : Funs := Tb5.add 66 [.str, (.int .u8)] strings_trimRightByte_g
theorem Tb6_nat : Tb6.Nat := add_nat Tb5_nat strings_trimRightByte_n
theorem Tb6_owes : ∀ f, Owes Tryd.prog Tb6 f := add_owes (E := strings_trimRightByte_E) (Tab.env_ok tab_ok _ _ _ _) mixed Tb5_nat Tb5_owes (fn := Tryd.f66) (code := strings_trimRightByte_c) Tryd.func66 (by kernel_rfl) (by kernel_rfl) fun l b r b' h => by
  obtain ⟨rfl, h⟩ := noBox_some h
  obtain ⟨x0, x1, h1, h2⟩ := own2 (E := strings_trimRightByte_E) rfl h
  exact ⟨FUEL, (h2 _ _ _ _ _ _).trans ((strings_trimRightByte_eq _ x0 x1 _).trans h1)⟩
noncomputable abbrev strings_trimLeftByte_c : Code := Tryd.f65.body.getD .skip
def strings_trimLeftByte_E : Env := tab.env (fun i => bif Nat.beq i 1 then [0, 1] else []) (fun i => bif Nat.beq i 1 then [0] else []) [] [.str, (.int .u8)]
def strings_trimLeftByte_h0 (s_0 : ByteArray) (c_1 : Int) : State := ⟨[[.dat .str s_0 []], [.dat (.int .u8) c_1 []], [.undef], [.undef], [.undef], [.undef], [.undef], [.undef], [.undef], [.undef], [.undef], [.undef], [.undef], [.undef], [.undef], [.undef], [.undef]], [none, none, none, none, none, none, none, none, none, none, none, none, none, none, none, none, none, none]⟩
def strings_trimLeftByte_x0_0 (s_0 : ByteArray) : State := ⟨[[.dat .str s_0 []], [.undef], [.undef], [.undef], [.undef], [.undef], [.undef], [.undef], [.undef], [.undef], [.undef], [.undef], [.undef], [.undef], [.undef], [.undef], [.undef]], [none, none, none, none, none, none, none, none, none, none, none, none, none, none, none, none, none, none]⟩
theorem strings_trimLeftByte_t (R : Type) (kk : Nat) (s_0 : ByteArray) (c_1 : Int) (K : List SV → Option Box → Option R) : evFn strings_trimLeftByte_E (Tb6 R) kk Tryd.f65 strings_trimLeftByte_c [.dat .str s_0 [], .dat (.int .u8) c_1 []] none K =
  strings_trimLeftByte_s0 s_0 c_1 (fun a0 a1 => loopR (ev strings_trimLeftByte_E (Tb6 R) kk (sub [1, 0, 0, 0] strings_trimLeftByte_c)) [0, 1] [0] kk (strings_trimLeftByte_h0 a0 a1) (kBlock 0 (kSeq strings_trimLeftByte_E (Tb6 R) kk (sub [1, 1] strings_trimLeftByte_c) (kFin strings_trimLeftByte_E Tryd.f65.results.toList none K)))) := by kernel_rfl
theorem strings_trimLeftByte_d0 (R : Type) (kk k : Nat) (s_0 : ByteArray) (c_1 : Int) (K : Ex → State → Option R) : loopR (ev strings_trimLeftByte_E (Tb6 R) kk (sub [1, 0, 0, 0] strings_trimLeftByte_c)) [0, 1] [0] (k + 1) (strings_trimLeftByte_h0 s_0 c_1) K =
  strings_trimLeftByte_s1 s_0 c_1 (fun a0 a1 => loopR (ev strings_trimLeftByte_E (Tb6 R) kk (sub [1, 0, 0, 0] strings_trimLeftByte_c)) [0, 1] [0] k (strings_trimLeftByte_h0 a0 a1) K) (fun a0 => K (.exit 0) (strings_trimLeftByte_x0_0 a0)) := by kernel_rfl
theorem strings_trimLeftByte_y0_0 (R : Type) (kk : Nat) (s_0 : ByteArray) (K : List SV → Option Box → Option R) : (kBlock 0 (kSeq strings_trimLeftByte_E (Tb6 R) kk (sub [1, 1] strings_trimLeftByte_c) (kFin strings_trimLeftByte_E Tryd.f65.results.toList none K))) (.exit 0) (strings_trimLeftByte_x0_0 s_0) =
  strings_trimLeftByte_s2 s_0 (fun a0 => K [.dat .str a0 []] none) := by kernel_rfl
theorem strings_trimLeftByte_lp0 (R : Type) (k : Nat) (s_0 : ByteArray) (c_1 : Int) (K : Ex → State → Option R) : loopR (ev strings_trimLeftByte_E (Tb6 R) FUEL (sub [1, 0, 0, 0] strings_trimLeftByte_c)) [0, 1] [0] k (strings_trimLeftByte_h0 s_0 c_1) K = (strings_trimLeftByte_l0 k s_0 c_1).bind fun e => K (.exit 0) (strings_trimLeftByte_x0_0 e) := by
  induction k generalizing s_0 c_1 with
  | zero => rfl
  | succ k ih =>
    rw [strings_trimLeftByte_d0]
    simp only [strings_trimLeftByte_l0, strings_trimLeftByte_s0_bind, strings_trimLeftByte_s1_bind, strings_trimLeftByte_s2_bind, ih, cond_bind, within_bind, none_bind, some_bind, sum_bind, bind_bind, Sum.elim_inl, Sum.elim_inr]
theorem strings_trimLeftByte_eq (R : Type) (s_0 : ByteArray) (c_1 : Int) (K : List SV → Option Box → Option R) : evFn strings_trimLeftByte_E (Tb6 R) FUEL Tryd.f65 strings_trimLeftByte_c [.dat .str s_0 [], .dat (.int .u8) c_1 []] none K = (strings_trimLeftByte s_0 c_1).bind fun r => K [.dat .str r []] none := by
  rw [strings_trimLeftByte_t]
  simp only [strings_trimLeftByte, strings_trimLeftByte_s0_bind, strings_trimLeftByte_s1_bind, strings_trimLeftByte_s2_bind, strings_trimLeftByte_lp0, strings_trimLeftByte_y0_0, cond_bind, within_bind, none_bind, some_bind, sum_bind, bind_bind, Sum.elim_inl, Sum.elim_inr]
def strings_trimLeftByte_g : Pure := fun R l b K => noBox b (args2 .str (.int .u8) l (fun x0 x1 => (strings_trimLeftByte x0 x1).bind fun r => K [.dat .str r []] none))
theorem strings_trimLeftByte_n : strings_trimLeftByte_g.Nat := fun R S l b F G K h => noBox_nat (args2_nat fun _ _ => bindr_nat fun _ => h _ _)
def Tb7 : Funs := Tb6.add 65 [.str, (.int .u8)] strings_trimLeftByte_g
theorem Tb7_nat : Tb7.Nat := add_nat Tb6_nat strings_trimLeftByte_n
theorem Tb7_owes : ∀ f, Owes Tryd.prog Tb7 f := add_owes (E := strings_trimLeftByte_E) (Tab.env_ok tab_ok _ _ _ _) mixed Tb6_nat Tb6_owes (fn := Tryd.f65) (code := strings_trimLeftByte_c) Tryd.func65 (by kernel_rfl) (by kernel_rfl) fun l b r b' h => by
  obtain ⟨rfl, h⟩ := noBox_some h
  obtain ⟨x0, x1, h1, h2⟩ := own2 (E := strings_trimLeftByte_E) rfl h
  exact ⟨FUEL, (h2 _ _ _ _ _ _).trans ((strings_trimLeftByte_eq _ x0 x1 _).trans h1)⟩
noncomputable abbrev strings_Trim_c : Code := Tryd.f46.body.getD .skip
def strings_Trim_E : Env := tab.env (fun _ => []) (fun _ => []) [] [.str, .str]
theorem strings_Trim_t (R : Type) (kk : Nat) (s_0 : ByteArray) (cutset_1 : ByteArray) (K : List SV → Option Box → Option R) : evFn strings_Trim_E (Tb7 R) kk Tryd.f46 strings_Trim_c [.dat .str s_0 [], .dat .str cutset_1 []] none K =
  strings_Trim_s0 s_0 cutset_1 (fun a0 => K [.dat .str a0 []] none) := by kernel_rfl
theorem strings_Trim_eq (R : Type) (s_0 : ByteArray) (cutset_1 : ByteArray) (K : List SV → Option Box → Option R) : evFn strings_Trim_E (Tb7 R) FUEL Tryd.f46 strings_Trim_c [.dat .str s_0 [], .dat .str cutset_1 []] none K = (strings_Trim s_0 cutset_1).bind fun r => K [.dat .str r []] none := by
  rw [strings_Trim_t]
  simp only [strings_Trim, strings_Trim_s0_bind, cond_bind, within_bind, none_bind, some_bind, sum_bind, bind_bind, Sum.elim_inl, Sum.elim_inr]
def strings_Trim_g : Pure := fun R l b K => noBox b (args2 .str .str l (fun x0 x1 => (strings_Trim x0 x1).bind fun r => K [.dat .str r []] none))
theorem strings_Trim_n : strings_Trim_g.Nat := fun R S l b F G K h => noBox_nat (args2_nat fun _ _ => bindr_nat fun _ => h _ _)
def Tb8 : Funs := Tb7.add 46 [.str, .str] strings_Trim_g
theorem Tb8_nat : Tb8.Nat := add_nat Tb7_nat strings_Trim_n
theorem Tb8_owes : ∀ f, Owes Tryd.prog Tb8 f := add_owes (E := strings_Trim_E) (Tab.env_ok tab_ok _ _ _ _) mixed Tb7_nat Tb7_owes (fn := Tryd.f46) (code := strings_Trim_c) Tryd.func46 (by kernel_rfl) (by kernel_rfl) fun l b r b' h => by
  obtain ⟨rfl, h⟩ := noBox_some h
  obtain ⟨x0, x1, h1, h2⟩ := own2 (E := strings_Trim_E) rfl h
  exact ⟨FUEL, (h2 _ _ _ _ _ _).trans ((strings_Trim_eq _ x0 x1 _).trans h1)⟩
noncomputable abbrev digits_Pad_c : Code := Tryd.f28.body.getD .skip
def digits_Pad_E : Env := tab.env (fun _ => []) (fun _ => []) [] [.str, (.int .i64)]
theorem digits_Pad_t (R : Type) (kk : Nat) (s_0 : ByteArray) (width_1 : Int) (K : List SV → Option Box → Option R) : evFn digits_Pad_E (Tb8 R) kk Tryd.f28 digits_Pad_c [.dat .str s_0 [], .dat (.int .i64) width_1 []] none K =
  digits_Pad_s0 s_0 width_1 (fun a0 a1 => K [.dat .str a0 [], .dat .bool a1 []] none) := by kernel_rfl
theorem digits_Pad_eq (R : Type) (s_0 : ByteArray) (width_1 : Int) (K : List SV → Option Box → Option R) : evFn digits_Pad_E (Tb8 R) FUEL Tryd.f28 digits_Pad_c [.dat .str s_0 [], .dat (.int .i64) width_1 []] none K = (digits_Pad s_0 width_1).bind fun r => K [.dat .str r.1 [], .dat .bool r.2 []] none := by
  rw [digits_Pad_t]
  simp only [digits_Pad, digits_Pad_s0_bind, cond_bind, within_bind, none_bind, some_bind, sum_bind, bind_bind, Sum.elim_inl, Sum.elim_inr]
def digits_Pad_g : Pure := fun R l b K => noBox b (args2 .str (.int .i64) l (fun x0 x1 => (digits_Pad x0 x1).bind fun r => K [.dat .str r.1 [], .dat .bool r.2 []] none))
theorem digits_Pad_n : digits_Pad_g.Nat := fun R S l b F G K h => noBox_nat (args2_nat fun _ _ => bindr_nat fun _ => h _ _)
def Tb9 : Funs := Tb8.add 28 [.str, (.int .i64)] digits_Pad_g
theorem Tb9_nat : Tb9.Nat := add_nat Tb8_nat digits_Pad_n
theorem Tb9_owes : ∀ f, Owes Tryd.prog Tb9 f := add_owes (E := digits_Pad_E) (Tab.env_ok tab_ok _ _ _ _) mixed Tb8_nat Tb8_owes (fn := Tryd.f28) (code := digits_Pad_c) Tryd.func28 (by kernel_rfl) (by kernel_rfl) fun l b r b' h => by
  obtain ⟨rfl, h⟩ := noBox_some h
  obtain ⟨x0, x1, h1, h2⟩ := own2 (E := digits_Pad_E) rfl h
  exact ⟨FUEL, (h2 _ _ _ _ _ _).trans ((digits_Pad_eq _ x0 x1 _).trans h1)⟩
noncomputable abbrev codes_Apply_c : Code := Tryd.f29.body.getD .skip
def codes_Apply_E : Env := tab.env (fun i => bif Nat.beq i 2 then [1, 8, 9, 10] else []) (fun i => bif Nat.beq i 2 then [4, 5] else []) [] [(.sl 53 (.pair .str (.pair .str .unit))), .str]
def codes_Apply_h0 (text_1 : ByteArray) (t8 : (List (ByteArray × ByteArray × Unit))) (t9 : Int) (t10 : Int) : State := ⟨[[.undef], [.dat .str text_1 []], [.undef], [.undef], [.undef], [.undef], [.undef], [.undef], [.dat (.sl 53 (.pair .str (.pair .str .unit))) t8 []], [.dat (.int .i64) t9 []], [.dat (.int .i64) t10 []], [.undef], [.undef], [.undef], [.undef], [.undef], [.undef], [.undef], [.undef], [.undef], [.undef]], [none, none, none, none, none, none, none, none, none, none, none, none, none, none, none, none, none, none, none, none, none, none]⟩
def codes_Apply_x0_0 (t4 : ByteArray) (t5 : Bool) : State := ⟨[[.undef], [.undef], [.undef], [.undef], [.dat .str t4 []], [.dat .bool t5 []], [.undef], [.undef], [.undef], [.undef], [.undef], [.undef], [.undef], [.undef], [.undef], [.undef], [.undef], [.undef], [.undef], [.undef], [.undef]], [none, none, none, none, none, none, none, none, none, none, none, none, none, none, none, none, none, none, none, none, none, none]⟩
def codes_Apply_x0_1  : State := ⟨[[.undef], [.undef], [.undef], [.undef], [.undef], [.undef], [.undef], [.undef], [.undef], [.undef], [.undef], [.undef], [.undef], [.undef], [.undef], [.undef], [.undef], [.undef], [.undef], [.undef], [.undef]], [none, none, none, none, none, none, none, none, none, none, none, none, none, none, none, none, none, none, none, none, none, none]⟩
theorem codes_Apply_t (R : Type) (kk : Nat) (l_0 : (List (ByteArray × ByteArray × Unit))) (text_1 : ByteArray) (K : List SV → Option Box → Option R) : evFn codes_Apply_E (Tb9 R) kk Tryd.f29 codes_Apply_c [.dat (.sl 53 (.pair .str (.pair .str .unit))) l_0 [], .dat .str text_1 []] none K =
  codes_Apply_s0 l_0 text_1 (fun a0 a1 a2 a3 => loopR (ev codes_Apply_E (Tb9 R) kk (sub [1, 0, 1, 0, 0] codes_Apply_c)) [1, 8, 9, 10] [4, 5] kk (codes_Apply_h0 a0 a1 a2 a3) (kBlock 0 (kSeq codes_Apply_E (Tb9 R) kk (sub [1, 1] codes_Apply_c) (kFin codes_Apply_E Tryd.f29.results.toList none K)))) := by kernel_rfl
theorem codes_Apply_d0 (R : Type) (kk k : Nat) (text_1 : ByteArray) (t8 : (List (ByteArray × ByteArray × Unit))) (t9 : Int) (t10 : Int) (K : Ex → State → Option R) : loopR (ev codes_Apply_E (Tb9 R) kk (sub [1, 0, 1, 0, 0] codes_Apply_c)) [1, 8, 9, 10] [4, 5] (k + 1) (codes_Apply_h0 text_1 t8 t9 t10) K =
  codes_Apply_s1 text_1 t8 t9 t10 (fun a0 a1 => K .ret (codes_Apply_x0_0 a0 a1)) (fun a0 a1 a2 a3 => loopR (ev codes_Apply_E (Tb9 R) kk (sub [1, 0, 1, 0, 0] codes_Apply_c)) [1, 8, 9, 10] [4, 5] k (codes_Apply_h0 a0 a1 a2 a3) K) (K (.exit 0) (codes_Apply_x0_1)) := by kernel_rfl
theorem codes_Apply_y0_0 (R : Type) (kk : Nat) (t4 : ByteArray) (t5 : Bool) (K : List SV → Option Box → Option R) : (kBlock 0 (kSeq codes_Apply_E (Tb9 R) kk (sub [1, 1] codes_Apply_c) (kFin codes_Apply_E Tryd.f29.results.toList none K))) .ret (codes_Apply_x0_0 t4 t5) =
  codes_Apply_s2 t4 t5 (fun a0 a1 => K [.dat .str a0 [], .dat .bool a1 []] none) := by kernel_rfl
theorem codes_Apply_y0_1 (R : Type) (kk : Nat)  (K : List SV → Option Box → Option R) : (kBlock 0 (kSeq codes_Apply_E (Tb9 R) kk (sub [1, 1] codes_Apply_c) (kFin codes_Apply_E Tryd.f29.results.toList none K))) (.exit 0) (codes_Apply_x0_1) =
  codes_Apply_s3 (fun a0 a1 => K [.dat .str a0 [], .dat .bool a1 []] none) := by kernel_rfl
theorem codes_Apply_lp0 (R : Type) (k : Nat) (text_1 : ByteArray) (t8 : (List (ByteArray × ByteArray × Unit))) (t9 : Int) (t10 : Int) (K : Ex → State → Option R) : loopR (ev codes_Apply_E (Tb9 R) FUEL (sub [1, 0, 1, 0, 0] codes_Apply_c)) [1, 8, 9, 10] [4, 5] k (codes_Apply_h0 text_1 t8 t9 t10) K = (codes_Apply_l0 k text_1 t8 t9 t10).bind fun e => (Sum.elim (fun (we : (ByteArray × Bool)) => K .ret (codes_Apply_x0_0 we.1 we.2)) (fun (we : Unit) => K (.exit 0) (codes_Apply_x0_1)) e) := by
  induction k generalizing text_1 t8 t9 t10 with
  | zero => rfl
  | succ k ih =>
    rw [codes_Apply_d0]
    simp only [codes_Apply_l0, codes_Apply_s0_bind, codes_Apply_s1_bind, codes_Apply_s2_bind, codes_Apply_s3_bind, ih, cond_bind, within_bind, none_bind, some_bind, sum_bind, bind_bind, Sum.elim_inl, Sum.elim_inr]
theorem codes_Apply_eq (R : Type) (l_0 : (List (ByteArray × ByteArray × Unit))) (text_1 : ByteArray) (K : List SV → Option Box → Option R) : evFn codes_Apply_E (Tb9 R) FUEL Tryd.f29 codes_Apply_c [.dat (.sl 53 (.pair .str (.pair .str .unit))) l_0 [], .dat .str text_1 []] none K = (codes_Apply l_0 text_1).bind fun r => K [.dat .str r.1 [], .dat .bool r.2 []] none := by
  rw [codes_Apply_t]
  simp only [codes_Apply, codes_Apply_s0_bind, codes_Apply_s1_bind, codes_Apply_s2_bind, codes_Apply_s3_bind, codes_Apply_lp0, codes_Apply_y0_0, codes_Apply_y0_1, cond_bind, within_bind, none_bind, some_bind, sum_bind, bind_bind, Sum.elim_inl, Sum.elim_inr]
def codes_Apply_g : Pure := fun R l b K => noBox b (args2 (.sl 53 (.pair .str (.pair .str .unit))) .str l (fun x0 x1 => (codes_Apply x0 x1).bind fun r => K [.dat .str r.1 [], .dat .bool r.2 []] none))
theorem codes_Apply_n : codes_Apply_g.Nat := fun R S l b F G K h => noBox_nat (args2_nat fun _ _ => bindr_nat fun _ => h _ _)
def Tb10 : Funs := Tb9.add 29 [(.sl 53 (.pair .str (.pair .str .unit))), .str] codes_Apply_g
theorem Tb10_nat : Tb10.Nat := add_nat Tb9_nat codes_Apply_n
theorem Tb10_owes : ∀ f, Owes Tryd.prog Tb10 f := add_owes (E := codes_Apply_E) (Tab.env_ok tab_ok _ _ _ _) mixed Tb9_nat Tb9_owes (fn := Tryd.f29) (code := codes_Apply_c) Tryd.func29 (by kernel_rfl) (by kernel_rfl) fun l b r b' h => by
  obtain ⟨rfl, h⟩ := noBox_some h
  obtain ⟨x0, x1, h1, h2⟩ := own2 (E := codes_Apply_E) rfl h
  exact ⟨FUEL, (h2 _ _ _ _ _ _).trans ((codes_Apply_eq _ x0 x1 _).trans h1)⟩
noncomputable abbrev rule_Apply_c : Code := Tryd.f13.body.getD .skip
def rule_Apply_E : Env := tab.env (fun _ => []) (fun _ => []) [6] [y7, y10, .str]
theorem rule_Apply_t (R : Type) (kk : Nat) (r_0 : (Int × Int × Int × ByteArray × (List (ByteArray × ByteArray × Unit)) × Unit)) (b_1 : (Int × Int × (List (Int × Int × Int × Int × Int × Unit)) × Unit)) (text_2 : ByteArray) (K : List SV → Option Box → Option R) : evFn rule_Apply_E (Tb10 R) kk Tryd.f13 rule_Apply_c [.dat y7 r_0 [], .dat y10 b_1 [], .dat .str text_2 []] none K =
  rule_Apply_s0 r_0 b_1 text_2 (fun a0 a1 => K [.dat (.pair (.int .i64) (.pair .str .unit)) a0 [], .dat (.int .i64) a1 []] none) := by kernel_rfl
theorem rule_Apply_eq (R : Type) (r_0 : (Int × Int × Int × ByteArray × (List (ByteArray × ByteArray × Unit)) × Unit)) (b_1 : (Int × Int × (List (Int × Int × Int × Int × Int × Unit)) × Unit)) (text_2 : ByteArray) (K : List SV → Option Box → Option R) : evFn rule_Apply_E (Tb10 R) FUEL Tryd.f13 rule_Apply_c [.dat y7 r_0 [], .dat y10 b_1 [], .dat .str text_2 []] none K = (rule_Apply r_0 b_1 text_2).bind fun r => K [.dat (.pair (.int .i64) (.pair .str .unit)) r.1 [], .dat (.int .i64) r.2 []] none := by
  rw [rule_Apply_t]
  simp only [rule_Apply, rule_Apply_s0_bind, cond_bind, within_bind, none_bind, some_bind, sum_bind, bind_bind, Sum.elim_inl, Sum.elim_inr]
def rule_Apply_g : Pure := fun R l b K => noBox b (args3 y7 y10 .str l (fun x0 x1 x2 => (rule_Apply x0 x1 x2).bind fun r => K [.dat (.pair (.int .i64) (.pair .str .unit)) r.1 [], .dat (.int .i64) r.2 []] none))
theorem rule_Apply_n : rule_Apply_g.Nat := fun R S l b F G K h => noBox_nat (args3_nat fun _ _ _ => bindr_nat fun _ => h _ _)
def Tb11 : Funs := Tb10.add 13 [y7, y10, .str] rule_Apply_g
theorem Tb11_nat : Tb11.Nat := add_nat Tb10_nat rule_Apply_n
theorem Tb11_owes : ∀ f, Owes Tryd.prog Tb11 f := add_owes (E := rule_Apply_E) (Tab.env_ok tab_ok _ _ _ _) mixed Tb10_nat Tb10_owes (fn := Tryd.f13) (code := rule_Apply_c) Tryd.func13 (by kernel_rfl) (by kernel_rfl) fun l b r b' h => by
  obtain ⟨rfl, h⟩ := noBox_some h
  obtain ⟨x0, x1, x2, h1, h2⟩ := own3 (E := rule_Apply_E) rfl h
  exact ⟨FUEL, (h2 _ _ _ _ _ _).trans ((rule_Apply_eq _ x0 x1 x2 _).trans h1)⟩
noncomputable abbrev rule_ends_c : Code := Tryd.f19.body.getD .skip
def rule_ends_E : Env := tab.env (fun _ => []) (fun _ => []) [6, 7] [y7, y10, y10]
theorem rule_ends_t (R : Type) (kk : Nat) (r_0 : (Int × Int × Int × ByteArray × (List (ByteArray × ByteArray × Unit)) × Unit)) (a_1 : (Int × Int × (List (Int × Int × Int × Int × Int × Unit)) × Unit)) (b_2 : (Int × Int × (List (Int × Int × Int × Int × Int × Unit)) × Unit)) (K : List SV → Option Box → Option R) : evFn rule_ends_E (Tb11 R) kk Tryd.f19 rule_ends_c [.dat y7 r_0 [], .dat y10 a_1 [], .dat y10 b_2 []] none K =
  rule_ends_s0 r_0 a_1 b_2 (fun a0 a1 a2 => K [.dat y5 a0 [], .dat y5 a1 [], .dat (.int .i64) a2 []] none) := by kernel_rfl
theorem rule_ends_eq (R : Type) (r_0 : (Int × Int × Int × ByteArray × (List (ByteArray × ByteArray × Unit)) × Unit)) (a_1 : (Int × Int × (List (Int × Int × Int × Int × Int × Unit)) × Unit)) (b_2 : (Int × Int × (List (Int × Int × Int × Int × Int × Unit)) × Unit)) (K : List SV → Option Box → Option R) : evFn rule_ends_E (Tb11 R) FUEL Tryd.f19 rule_ends_c [.dat y7 r_0 [], .dat y10 a_1 [], .dat y10 b_2 []] none K = (rule_ends r_0 a_1 b_2).bind fun r => K [.dat y5 r.1 [], .dat y5 r.2.1 [], .dat (.int .i64) r.2.2 []] none := by
  rw [rule_ends_t]
  simp only [rule_ends, rule_ends_s0_bind, cond_bind, within_bind, none_bind, some_bind, sum_bind, bind_bind, Sum.elim_inl, Sum.elim_inr]
def rule_ends_g : Pure := fun R l b K => noBox b (args3 y7 y10 y10 l (fun x0 x1 x2 => (rule_ends x0 x1 x2).bind fun r => K [.dat y5 r.1 [], .dat y5 r.2.1 [], .dat (.int .i64) r.2.2 []] none))
theorem rule_ends_n : rule_ends_g.Nat := fun R S l b F G K h => noBox_nat (args3_nat fun _ _ _ => bindr_nat fun _ => h _ _)
def Tb12 : Funs := Tb11.add 19 [y7, y10, y10] rule_ends_g
theorem Tb12_nat : Tb12.Nat := add_nat Tb11_nat rule_ends_n
theorem Tb12_owes : ∀ f, Owes Tryd.prog Tb12 f := add_owes (E := rule_ends_E) (Tab.env_ok tab_ok _ _ _ _) mixed Tb11_nat Tb11_owes (fn := Tryd.f19) (code := rule_ends_c) Tryd.func19 (by kernel_rfl) (by kernel_rfl) fun l b r b' h => by
  obtain ⟨rfl, h⟩ := noBox_some h
  obtain ⟨x0, x1, x2, h1, h2⟩ := own3 (E := rule_ends_E) rfl h
  exact ⟨FUEL, (h2 _ _ _ _ _ _).trans ((rule_ends_eq _ x0 x1 x2 _).trans h1)⟩
noncomputable abbrev class_sets_c : Code := Tryd.f55.body.getD .skip
def class_sets_E : Env := tab.env (fun _ => []) (fun _ => []) [] [(.int .i64)]
theorem class_sets_t (R : Type) (kk : Nat) (class_0 : Int) (K : List SV → Option Box → Option R) : evFn class_sets_E (Tb12 R) kk Tryd.f55 class_sets_c [.dat (.int .i64) class_0 []] none K =
  class_sets_s0 class_0 (fun a0 => K [.dat (.int .i64) a0 []] none) := by kernel_rfl
theorem class_sets_eq (R : Type) (class_0 : Int) (K : List SV → Option Box → Option R) : evFn class_sets_E (Tb12 R) FUEL Tryd.f55 class_sets_c [.dat (.int .i64) class_0 []] none K = (class_sets class_0).bind fun r => K [.dat (.int .i64) r []] none := by
  rw [class_sets_t]
  simp only [class_sets, class_sets_s0_bind, cond_bind, within_bind, none_bind, some_bind, sum_bind, bind_bind, Sum.elim_inl, Sum.elim_inr]
def class_sets_g : Pure := fun R l b K => noBox b (args1 (.int .i64) l (fun x0 => (class_sets x0).bind fun r => K [.dat (.int .i64) r []] none))
theorem class_sets_n : class_sets_g.Nat := fun R S l b F G K h => noBox_nat (args1_nat fun _ => bindr_nat fun _ => h _ _)
def Tb13 : Funs := Tb12.add 55 [(.int .i64)] class_sets_g
theorem Tb13_nat : Tb13.Nat := add_nat Tb12_nat class_sets_n
theorem Tb13_owes : ∀ f, Owes Tryd.prog Tb13 f := add_owes (E := class_sets_E) (Tab.env_ok tab_ok _ _ _ _) mixed Tb12_nat Tb12_owes (fn := Tryd.f55) (code := class_sets_c) Tryd.func55 (by kernel_rfl) (by kernel_rfl) fun l b r b' h => by
  obtain ⟨rfl, h⟩ := noBox_some h
  obtain ⟨x0, h1, h2⟩ := own1 (E := class_sets_E) rfl h
  exact ⟨FUEL, (h2 _ _ _ _ _ _).trans ((class_sets_eq _ x0 _).trans h1)⟩
noncomputable abbrev class_Known_c : Code := Tryd.f52.body.getD .skip
def class_Known_E : Env := tab.env (fun _ => []) (fun _ => []) [] [(.int .i64)]
theorem class_Known_t (R : Type) (kk : Nat) (class_0 : Int) (K : List SV → Option Box → Option R) : evFn class_Known_E (Tb13 R) kk Tryd.f52 class_Known_c [.dat (.int .i64) class_0 []] none K =
  class_Known_s0 class_0 (fun a0 => K [.dat .bool a0 []] none) := by kernel_rfl
theorem class_Known_eq (R : Type) (class_0 : Int) (K : List SV → Option Box → Option R) : evFn class_Known_E (Tb13 R) FUEL Tryd.f52 class_Known_c [.dat (.int .i64) class_0 []] none K = (class_Known class_0).bind fun r => K [.dat .bool r []] none := by
  rw [class_Known_t]
  simp only [class_Known, class_Known_s0_bind, cond_bind, within_bind, none_bind, some_bind, sum_bind, bind_bind, Sum.elim_inl, Sum.elim_inr]
def class_Known_g : Pure := fun R l b K => noBox b (args1 (.int .i64) l (fun x0 => (class_Known x0).bind fun r => K [.dat .bool r []] none))
theorem class_Known_n : class_Known_g.Nat := fun R S l b F G K h => noBox_nat (args1_nat fun _ => bindr_nat fun _ => h _ _)
def Tb14 : Funs := Tb13.add 52 [(.int .i64)] class_Known_g
theorem Tb14_nat : Tb14.Nat := add_nat Tb13_nat class_Known_n
theorem Tb14_owes : ∀ f, Owes Tryd.prog Tb14 f := add_owes (E := class_Known_E) (Tab.env_ok tab_ok _ _ _ _) mixed Tb13_nat Tb13_owes (fn := Tryd.f52) (code := class_Known_c) Tryd.func52 (by kernel_rfl) (by kernel_rfl) fun l b r b' h => by
  obtain ⟨rfl, h⟩ := noBox_some h
  obtain ⟨x0, h1, h2⟩ := own1 (E := class_Known_E) rfl h
  exact ⟨FUEL, (h2 _ _ _ _ _ _).trans ((class_Known_eq _ x0 _).trans h1)⟩
noncomputable abbrev prefix_width_c : Code := Tryd.f74.body.getD .skip
def prefix_width_E : Env := tab.env (fun _ => []) (fun _ => []) [] [(.int .i64)]
theorem prefix_width_t (R : Type) (kk : Nat) (form_0 : Int) (K : List SV → Option Box → Option R) : evFn prefix_width_E (Tb14 R) kk Tryd.f74 prefix_width_c [.dat (.int .i64) form_0 []] none K =
  prefix_width_s0 form_0 (fun a0 => K [.dat (.int .i64) a0 []] none) := by kernel_rfl
theorem prefix_width_eq (R : Type) (form_0 : Int) (K : List SV → Option Box → Option R) : evFn prefix_width_E (Tb14 R) FUEL Tryd.f74 prefix_width_c [.dat (.int .i64) form_0 []] none K = (prefix_width form_0).bind fun r => K [.dat (.int .i64) r []] none := by
  rw [prefix_width_t]
  simp only [prefix_width, prefix_width_s0_bind, cond_bind, within_bind, none_bind, some_bind, sum_bind, bind_bind, Sum.elim_inl, Sum.elim_inr]
def prefix_width_g : Pure := fun R l b K => noBox b (args1 (.int .i64) l (fun x0 => (prefix_width x0).bind fun r => K [.dat (.int .i64) r []] none))
theorem prefix_width_n : prefix_width_g.Nat := fun R S l b F G K h => noBox_nat (args1_nat fun _ => bindr_nat fun _ => h _ _)
def Tb15 : Funs := Tb14.add 74 [(.int .i64)] prefix_width_g
theorem Tb15_nat : Tb15.Nat := add_nat Tb14_nat prefix_width_n
theorem Tb15_owes : ∀ f, Owes Tryd.prog Tb15 f := add_owes (E := prefix_width_E) (Tab.env_ok tab_ok _ _ _ _) mixed Tb14_nat Tb14_owes (fn := Tryd.f74) (code := prefix_width_c) Tryd.func74 (by kernel_rfl) (by kernel_rfl) fun l b r b' h => by
  obtain ⟨rfl, h⟩ := noBox_some h
  obtain ⟨x0, h1, h2⟩ := own1 (E := prefix_width_E) rfl h
  exact ⟨FUEL, (h2 _ _ _ _ _ _).trans ((prefix_width_eq _ x0 _).trans h1)⟩
noncomputable abbrev prefix_Most_c : Code := Tryd.f53.body.getD .skip
def prefix_Most_E : Env := tab.env (fun i => bif Nat.beq i 3 then [3, 5, 6] else []) (fun i => bif Nat.beq i 3 then [3] else []) [] [(.int .i64)]
def prefix_Most_h0 (t3 : Int) (t5 : Int) (t6 : Int) : State := ⟨[[.undef], [.undef], [.undef], [.dat (.int .i64) t3 []], [.undef], [.dat (.int .i64) t5 []], [.dat (.int .i64) t6 []], [.undef], [.undef], [.undef], [.undef], [.undef], [.undef]], [none, none, none, none, none, none, none, none, none, none, none, none, none, none]⟩
def prefix_Most_x0_0 (t3 : Int) : State := ⟨[[.undef], [.undef], [.undef], [.dat (.int .i64) t3 []], [.undef], [.undef], [.undef], [.undef], [.undef], [.undef], [.undef], [.undef], [.undef]], [none, none, none, none, none, none, none, none, none, none, none, none, none, none]⟩
theorem prefix_Most_t (R : Type) (kk : Nat) (form_0 : Int) (K : List SV → Option Box → Option R) : evFn prefix_Most_E (Tb15 R) kk Tryd.f53 prefix_Most_c [.dat (.int .i64) form_0 []] none K =
  prefix_Most_s0 form_0 (fun a0 a1 a2 => loopR (ev prefix_Most_E (Tb15 R) kk (sub [1, 1, 0, 1, 0, 0] prefix_Most_c)) [3, 5, 6] [3] kk (prefix_Most_h0 a0 a1 a2) (kBlock 0 (kSeq prefix_Most_E (Tb15 R) kk (sub [1, 1, 1] prefix_Most_c) (kFin prefix_Most_E Tryd.f53.results.toList none K)))) := by kernel_rfl
theorem prefix_Most_d0 (R : Type) (kk k : Nat) (t3 : Int) (t5 : Int) (t6 : Int) (K : Ex → State → Option R) : loopR (ev prefix_Most_E (Tb15 R) kk (sub [1, 1, 0, 1, 0, 0] prefix_Most_c)) [3, 5, 6] [3] (k + 1) (prefix_Most_h0 t3 t5 t6) K =
  prefix_Most_s1 t3 t5 t6 (fun a0 a1 a2 => loopR (ev prefix_Most_E (Tb15 R) kk (sub [1, 1, 0, 1, 0, 0] prefix_Most_c)) [3, 5, 6] [3] k (prefix_Most_h0 a0 a1 a2) K) (fun a0 => K (.exit 0) (prefix_Most_x0_0 a0)) := by kernel_rfl
theorem prefix_Most_y0_0 (R : Type) (kk : Nat) (t3 : Int) (K : List SV → Option Box → Option R) : (kBlock 0 (kSeq prefix_Most_E (Tb15 R) kk (sub [1, 1, 1] prefix_Most_c) (kFin prefix_Most_E Tryd.f53.results.toList none K))) (.exit 0) (prefix_Most_x0_0 t3) =
  prefix_Most_s2 t3 (fun a0 => K [.dat (.int .i64) a0 []] none) := by kernel_rfl
theorem prefix_Most_lp0 (R : Type) (k : Nat) (t3 : Int) (t5 : Int) (t6 : Int) (K : Ex → State → Option R) : loopR (ev prefix_Most_E (Tb15 R) FUEL (sub [1, 1, 0, 1, 0, 0] prefix_Most_c)) [3, 5, 6] [3] k (prefix_Most_h0 t3 t5 t6) K = (prefix_Most_l0 k t3 t5 t6).bind fun e => K (.exit 0) (prefix_Most_x0_0 e) := by
  induction k generalizing t3 t5 t6 with
  | zero => rfl
  | succ k ih =>
    rw [prefix_Most_d0]
    simp only [prefix_Most_l0, prefix_Most_s0_bind, prefix_Most_s1_bind, prefix_Most_s2_bind, ih, cond_bind, within_bind, none_bind, some_bind, sum_bind, bind_bind, Sum.elim_inl, Sum.elim_inr]
theorem prefix_Most_eq (R : Type) (form_0 : Int) (K : List SV → Option Box → Option R) : evFn prefix_Most_E (Tb15 R) FUEL Tryd.f53 prefix_Most_c [.dat (.int .i64) form_0 []] none K = (prefix_Most form_0).bind fun r => K [.dat (.int .i64) r []] none := by
  rw [prefix_Most_t]
  simp only [prefix_Most, prefix_Most_s0_bind, prefix_Most_s1_bind, prefix_Most_s2_bind, prefix_Most_lp0, prefix_Most_y0_0, cond_bind, within_bind, none_bind, some_bind, sum_bind, bind_bind, Sum.elim_inl, Sum.elim_inr]
def prefix_Most_g : Pure := fun R l b K => noBox b (args1 (.int .i64) l (fun x0 => (prefix_Most x0).bind fun r => K [.dat (.int .i64) r []] none))
theorem prefix_Most_n : prefix_Most_g.Nat := fun R S l b F G K h => noBox_nat (args1_nat fun _ => bindr_nat fun _ => h _ _)
def Tb16 : Funs := Tb15.add 53 [(.int .i64)] prefix_Most_g
theorem Tb16_nat : Tb16.Nat := add_nat Tb15_nat prefix_Most_n
theorem Tb16_owes : ∀ f, Owes Tryd.prog Tb16 f := add_owes (E := prefix_Most_E) (Tab.env_ok tab_ok _ _ _ _) mixed Tb15_nat Tb15_owes (fn := Tryd.f53) (code := prefix_Most_c) Tryd.func53 (by kernel_rfl) (by kernel_rfl) fun l b r b' h => by
  obtain ⟨rfl, h⟩ := noBox_some h
  obtain ⟨x0, h1, h2⟩ := own1 (E := prefix_Most_E) rfl h
  exact ⟨FUEL, (h2 _ _ _ _ _ _).trans ((prefix_Most_eq _ x0 _).trans h1)⟩
noncomputable abbrev spec_Check_c : Code := Tryd.f37.body.getD .skip
def spec_Check_E : Env := tab.env (fun _ => []) (fun _ => []) [] [y5]
theorem spec_Check_t (R : Type) (kk : Nat) (s_0 : (Int × Int × Int × Int × Int × Unit)) (K : List SV → Option Box → Option R) : evFn spec_Check_E (Tb16 R) kk Tryd.f37 spec_Check_c [.dat y5 s_0 []] none K =
  spec_Check_s0 s_0 (fun a0 => K [.dat (.int .i64) a0 []] none) := by kernel_rfl
theorem spec_Check_eq (R : Type) (s_0 : (Int × Int × Int × Int × Int × Unit)) (K : List SV → Option Box → Option R) : evFn spec_Check_E (Tb16 R) FUEL Tryd.f37 spec_Check_c [.dat y5 s_0 []] none K = (spec_Check s_0).bind fun r => K [.dat (.int .i64) r []] none := by
  rw [spec_Check_t]
  simp only [spec_Check, spec_Check_s0_bind, cond_bind, within_bind, none_bind, some_bind, sum_bind, bind_bind, Sum.elim_inl, Sum.elim_inr]
def spec_Check_g : Pure := fun R l b K => noBox b (args1 y5 l (fun x0 => (spec_Check x0).bind fun r => K [.dat (.int .i64) r []] none))
theorem spec_Check_n : spec_Check_g.Nat := fun R S l b F G K h => noBox_nat (args1_nat fun _ => bindr_nat fun _ => h _ _)
def Tb17 : Funs := Tb16.add 37 [y5] spec_Check_g
theorem Tb17_nat : Tb17.Nat := add_nat Tb16_nat spec_Check_n
theorem Tb17_owes : ∀ f, Owes Tryd.prog Tb17 f := add_owes (E := spec_Check_E) (Tab.env_ok tab_ok _ _ _ _) mixed Tb16_nat Tb16_owes (fn := Tryd.f37) (code := spec_Check_c) Tryd.func37 (by kernel_rfl) (by kernel_rfl) fun l b r b' h => by
  obtain ⟨rfl, h⟩ := noBox_some h
  obtain ⟨x0, h1, h2⟩ := own1 (E := spec_Check_E) rfl h
  exact ⟨FUEL, (h2 _ _ _ _ _ _).trans ((spec_Check_eq _ x0 _).trans h1)⟩
noncomputable abbrev class_Wider_c : Code := Tryd.f54.body.getD .skip
def class_Wider_E : Env := tab.env (fun _ => []) (fun _ => []) [] [(.int .i64), (.int .i64)]
theorem class_Wider_t (R : Type) (kk : Nat) (a_0 : Int) (b_1 : Int) (K : List SV → Option Box → Option R) : evFn class_Wider_E (Tb17 R) kk Tryd.f54 class_Wider_c [.dat (.int .i64) a_0 [], .dat (.int .i64) b_1 []] none K =
  class_Wider_s0 a_0 b_1 (fun a0 => K [.dat .bool a0 []] none) := by kernel_rfl
theorem class_Wider_eq (R : Type) (a_0 : Int) (b_1 : Int) (K : List SV → Option Box → Option R) : evFn class_Wider_E (Tb17 R) FUEL Tryd.f54 class_Wider_c [.dat (.int .i64) a_0 [], .dat (.int .i64) b_1 []] none K = (class_Wider a_0 b_1).bind fun r => K [.dat .bool r []] none := by
  rw [class_Wider_t]
  simp only [class_Wider, class_Wider_s0_bind, cond_bind, within_bind, none_bind, some_bind, sum_bind, bind_bind, Sum.elim_inl, Sum.elim_inr]
def class_Wider_g : Pure := fun R l b K => noBox b (args2 (.int .i64) (.int .i64) l (fun x0 x1 => (class_Wider x0 x1).bind fun r => K [.dat .bool r []] none))
theorem class_Wider_n : class_Wider_g.Nat := fun R S l b F G K h => noBox_nat (args2_nat fun _ _ => bindr_nat fun _ => h _ _)
def Tb18 : Funs := Tb17.add 54 [(.int .i64), (.int .i64)] class_Wider_g
theorem Tb18_nat : Tb18.Nat := add_nat Tb17_nat class_Wider_n
theorem Tb18_owes : ∀ f, Owes Tryd.prog Tb18 f := add_owes (E := class_Wider_E) (Tab.env_ok tab_ok _ _ _ _) mixed Tb17_nat Tb17_owes (fn := Tryd.f54) (code := class_Wider_c) Tryd.func54 (by kernel_rfl) (by kernel_rfl) fun l b r b' h => by
  obtain ⟨rfl, h⟩ := noBox_some h
  obtain ⟨x0, x1, h1, h2⟩ := own2 (E := class_Wider_E) rfl h
  exact ⟨FUEL, (h2 _ _ _ _ _ _).trans ((class_Wider_eq _ x0 x1 _).trans h1)⟩
noncomputable abbrev spec_classes_c : Code := Tryd.f38.body.getD .skip
def spec_classes_E : Env := tab.env (fun _ => []) (fun _ => []) [] [(.int .i64), (.int .i64)]
theorem spec_classes_t (R : Type) (kk : Nat) (a_0 : Int) (b_1 : Int) (K : List SV → Option Box → Option R) : evFn spec_classes_E (Tb18 R) kk Tryd.f38 spec_classes_c [.dat (.int .i64) a_0 [], .dat (.int .i64) b_1 []] none K =
  spec_classes_s0 a_0 b_1 (fun a0 => K [.dat .bool a0 []] none) := by kernel_rfl
theorem spec_classes_eq (R : Type) (a_0 : Int) (b_1 : Int) (K : List SV → Option Box → Option R) : evFn spec_classes_E (Tb18 R) FUEL Tryd.f38 spec_classes_c [.dat (.int .i64) a_0 [], .dat (.int .i64) b_1 []] none K = (spec_classes a_0 b_1).bind fun r => K [.dat .bool r []] none := by
  rw [spec_classes_t]
  simp only [spec_classes, spec_classes_s0_bind, cond_bind, within_bind, none_bind, some_bind, sum_bind, bind_bind, Sum.elim_inl, Sum.elim_inr]
def spec_classes_g : Pure := fun R l b K => noBox b (args2 (.int .i64) (.int .i64) l (fun x0 x1 => (spec_classes x0 x1).bind fun r => K [.dat .bool r []] none))
theorem spec_classes_n : spec_classes_g.Nat := fun R S l b F G K h => noBox_nat (args2_nat fun _ _ => bindr_nat fun _ => h _ _)
def Tb19 : Funs := Tb18.add 38 [(.int .i64), (.int .i64)] spec_classes_g
theorem Tb19_nat : Tb19.Nat := add_nat Tb18_nat spec_classes_n
theorem Tb19_owes : ∀ f, Owes Tryd.prog Tb19 f := add_owes (E := spec_classes_E) (Tab.env_ok tab_ok _ _ _ _) mixed Tb18_nat Tb18_owes (fn := Tryd.f38) (code := spec_classes_c) Tryd.func38 (by kernel_rfl) (by kernel_rfl) fun l b r b' h => by
  obtain ⟨rfl, h⟩ := noBox_some h
  obtain ⟨x0, x1, h1, h2⟩ := own2 (E := spec_classes_E) rfl h
  exact ⟨FUEL, (h2 _ _ _ _ _ _).trans ((spec_classes_eq _ x0 x1 _).trans h1)⟩
noncomputable abbrev spec_Wider_c : Code := Tryd.f20.body.getD .skip
def spec_Wider_E : Env := tab.env (fun _ => []) (fun _ => []) [] [y5, y5]
theorem spec_Wider_t (R : Type) (kk : Nat) (a_0 : (Int × Int × Int × Int × Int × Unit)) (b_1 : (Int × Int × Int × Int × Int × Unit)) (K : List SV → Option Box → Option R) : evFn spec_Wider_E (Tb19 R) kk Tryd.f20 spec_Wider_c [.dat y5 a_0 [], .dat y5 b_1 []] none K =
  spec_Wider_s0 a_0 b_1 (fun a0 => K [.dat .bool a0 []] none) := by kernel_rfl
theorem spec_Wider_eq (R : Type) (a_0 : (Int × Int × Int × Int × Int × Unit)) (b_1 : (Int × Int × Int × Int × Int × Unit)) (K : List SV → Option Box → Option R) : evFn spec_Wider_E (Tb19 R) FUEL Tryd.f20 spec_Wider_c [.dat y5 a_0 [], .dat y5 b_1 []] none K = (spec_Wider a_0 b_1).bind fun r => K [.dat .bool r []] none := by
  rw [spec_Wider_t]
  simp only [spec_Wider, spec_Wider_s0_bind, cond_bind, within_bind, none_bind, some_bind, sum_bind, bind_bind, Sum.elim_inl, Sum.elim_inr]
def spec_Wider_g : Pure := fun R l b K => noBox b (args2 y5 y5 l (fun x0 x1 => (spec_Wider x0 x1).bind fun r => K [.dat .bool r []] none))
theorem spec_Wider_n : spec_Wider_g.Nat := fun R S l b F G K h => noBox_nat (args2_nat fun _ _ => bindr_nat fun _ => h _ _)
def Tb20 : Funs := Tb19.add 20 [y5, y5] spec_Wider_g
theorem Tb20_nat : Tb20.Nat := add_nat Tb19_nat spec_Wider_n
theorem Tb20_owes : ∀ f, Owes Tryd.prog Tb20 f := add_owes (E := spec_Wider_E) (Tab.env_ok tab_ok _ _ _ _) mixed Tb19_nat Tb19_owes (fn := Tryd.f20) (code := spec_Wider_c) Tryd.func20 (by kernel_rfl) (by kernel_rfl) fun l b r b' h => by
  obtain ⟨rfl, h⟩ := noBox_some h
  obtain ⟨x0, x1, h1, h2⟩ := own2 (E := spec_Wider_E) rfl h
  exact ⟨FUEL, (h2 _ _ _ _ _ _).trans ((spec_Wider_eq _ x0 x1 _).trans h1)⟩
noncomputable abbrev class_of_c : Code := Tryd.f56.body.getD .skip
def class_of_E : Env := tab.env (fun _ => []) (fun _ => []) [] [(.int .u8)]
theorem class_of_t (R : Type) (kk : Nat) (b_0 : Int) (K : List SV → Option Box → Option R) : evFn class_of_E (Tb20 R) kk Tryd.f56 class_of_c [.dat (.int .u8) b_0 []] none K =
  class_of_s0 b_0 (fun a0 => K [.dat (.int .i64) a0 []] none) := by kernel_rfl
theorem class_of_eq (R : Type) (b_0 : Int) (K : List SV → Option Box → Option R) : evFn class_of_E (Tb20 R) FUEL Tryd.f56 class_of_c [.dat (.int .u8) b_0 []] none K = (class_of b_0).bind fun r => K [.dat (.int .i64) r []] none := by
  rw [class_of_t]
  simp only [class_of, class_of_s0_bind, cond_bind, within_bind, none_bind, some_bind, sum_bind, bind_bind, Sum.elim_inl, Sum.elim_inr]
def class_of_g : Pure := fun R l b K => noBox b (args1 (.int .u8) l (fun x0 => (class_of x0).bind fun r => K [.dat (.int .i64) r []] none))
theorem class_of_n : class_of_g.Nat := fun R S l b F G K h => noBox_nat (args1_nat fun _ => bindr_nat fun _ => h _ _)
def Tb21 : Funs := Tb20.add 56 [(.int .u8)] class_of_g
theorem Tb21_nat : Tb21.Nat := add_nat Tb20_nat class_of_n
theorem Tb21_owes : ∀ f, Owes Tryd.prog Tb21 f := add_owes (E := class_of_E) (Tab.env_ok tab_ok _ _ _ _) mixed Tb20_nat Tb20_owes (fn := Tryd.f56) (code := class_of_c) Tryd.func56 (by kernel_rfl) (by kernel_rfl) fun l b r b' h => by
  obtain ⟨rfl, h⟩ := noBox_some h
  obtain ⟨x0, h1, h2⟩ := own1 (E := class_of_E) rfl h
  exact ⟨FUEL, (h2 _ _ _ _ _ _).trans ((class_of_eq _ x0 _).trans h1)⟩
noncomputable abbrev class_First_c : Code := Tryd.f39.body.getD .skip
def class_First_E : Env := tab.env (fun i => bif Nat.beq i 3 then [1, 5, 6] else []) (fun i => bif Nat.beq i 3 then [4] else []) [] [(.int .i64), .str]
def class_First_h0 (s_1 : ByteArray) (t5 : Int) (t6 : Int) : State := ⟨[[.undef], [.dat .str s_1 []], [.undef], [.undef], [.undef], [.dat (.int .i64) t5 []], [.dat (.int .i64) t6 []], [.undef], [.undef], [.undef], [.undef], [.undef], [.undef], [.undef], [.undef], [.undef], [.undef], [.undef], [.undef], [.undef], [.undef], [.undef], [.undef]], [none, none, none, none, none, none, none, none, none, none, none, none, none, none, none, none, none, none, none, none, none, none, none, none]⟩
def class_First_x0_0 (t4 : Int) : State := ⟨[[.undef], [.undef], [.undef], [.undef], [.dat (.int .i64) t4 []], [.undef], [.undef], [.undef], [.undef], [.undef], [.undef], [.undef], [.undef], [.undef], [.undef], [.undef], [.undef], [.undef], [.undef], [.undef], [.undef], [.undef], [.undef]], [none, none, none, none, none, none, none, none, none, none, none, none, none, none, none, none, none, none, none, none, none, none, none, none]⟩
def class_First_x0_1  : State := ⟨[[.undef], [.undef], [.undef], [.undef], [.undef], [.undef], [.undef], [.undef], [.undef], [.undef], [.undef], [.undef], [.undef], [.undef], [.undef], [.undef], [.undef], [.undef], [.undef], [.undef], [.undef], [.undef], [.undef]], [none, none, none, none, none, none, none, none, none, none, none, none, none, none, none, none, none, none, none, none, none, none, none, none]⟩
theorem class_First_t (R : Type) (kk : Nat) (class_0 : Int) (s_1 : ByteArray) (K : List SV → Option Box → Option R) : evFn class_First_E (Tb21 R) kk Tryd.f39 class_First_c [.dat (.int .i64) class_0 [], .dat .str s_1 []] none K =
  class_First_s0 class_0 s_1 (fun a0 a1 a2 => loopR (ev class_First_E (Tb21 R) kk (sub [1, 1, 0, 1, 0, 0] class_First_c)) [1, 5, 6] [4] kk (class_First_h0 a0 a1 a2) (kBlock 0 (kSeq class_First_E (Tb21 R) kk (sub [1, 1, 1] class_First_c) (kFin class_First_E Tryd.f39.results.toList none K)))) := by kernel_rfl
theorem class_First_d0 (R : Type) (kk k : Nat) (s_1 : ByteArray) (t5 : Int) (t6 : Int) (K : Ex → State → Option R) : loopR (ev class_First_E (Tb21 R) kk (sub [1, 1, 0, 1, 0, 0] class_First_c)) [1, 5, 6] [4] (k + 1) (class_First_h0 s_1 t5 t6) K =
  class_First_s1 s_1 t5 t6 (fun a0 => K .ret (class_First_x0_0 a0)) (fun a0 a1 a2 => loopR (ev class_First_E (Tb21 R) kk (sub [1, 1, 0, 1, 0, 0] class_First_c)) [1, 5, 6] [4] k (class_First_h0 a0 a1 a2) K) (K (.exit 0) (class_First_x0_1)) := by kernel_rfl
theorem class_First_y0_0 (R : Type) (kk : Nat) (t4 : Int) (K : List SV → Option Box → Option R) : (kBlock 0 (kSeq class_First_E (Tb21 R) kk (sub [1, 1, 1] class_First_c) (kFin class_First_E Tryd.f39.results.toList none K))) .ret (class_First_x0_0 t4) =
  class_First_s2 t4 (fun a0 => K [.dat (.int .i64) a0 []] none) := by kernel_rfl
theorem class_First_y0_1 (R : Type) (kk : Nat)  (K : List SV → Option Box → Option R) : (kBlock 0 (kSeq class_First_E (Tb21 R) kk (sub [1, 1, 1] class_First_c) (kFin class_First_E Tryd.f39.results.toList none K))) (.exit 0) (class_First_x0_1) =
  class_First_s3 (fun a0 => K [.dat (.int .i64) a0 []] none) := by kernel_rfl
theorem class_First_lp0 (R : Type) (k : Nat) (s_1 : ByteArray) (t5 : Int) (t6 : Int) (K : Ex → State → Option R) : loopR (ev class_First_E (Tb21 R) FUEL (sub [1, 1, 0, 1, 0, 0] class_First_c)) [1, 5, 6] [4] k (class_First_h0 s_1 t5 t6) K = (class_First_l0 k s_1 t5 t6).bind fun e => (Sum.elim (fun (we : Int) => K .ret (class_First_x0_0 we)) (fun (we : Unit) => K (.exit 0) (class_First_x0_1)) e) := by
  induction k generalizing s_1 t5 t6 with
  | zero => rfl
  | succ k ih =>
    rw [class_First_d0]
    simp only [class_First_l0, class_First_s0_bind, class_First_s1_bind, class_First_s2_bind, class_First_s3_bind, ih, cond_bind, within_bind, none_bind, some_bind, sum_bind, bind_bind, Sum.elim_inl, Sum.elim_inr]
theorem class_First_eq (R : Type) (class_0 : Int) (s_1 : ByteArray) (K : List SV → Option Box → Option R) : evFn class_First_E (Tb21 R) FUEL Tryd.f39 class_First_c [.dat (.int .i64) class_0 [], .dat .str s_1 []] none K = (class_First class_0 s_1).bind fun r => K [.dat (.int .i64) r []] none := by
  rw [class_First_t]
  simp only [class_First, class_First_s0_bind, class_First_s1_bind, class_First_s2_bind, class_First_s3_bind, class_First_lp0, class_First_y0_0, class_First_y0_1, cond_bind, within_bind, none_bind, some_bind, sum_bind, bind_bind, Sum.elim_inl, Sum.elim_inr]
def class_First_g : Pure := fun R l b K => noBox b (args2 (.int .i64) .str l (fun x0 x1 => (class_First x0 x1).bind fun r => K [.dat (.int .i64) r []] none))
theorem class_First_n : class_First_g.Nat := fun R S l b F G K h => noBox_nat (args2_nat fun _ _ => bindr_nat fun _ => h _ _)
def Tb22 : Funs := Tb21.add 39 [(.int .i64), .str] class_First_g
theorem Tb22_nat : Tb22.Nat := add_nat Tb21_nat class_First_n
theorem Tb22_owes : ∀ f, Owes Tryd.prog Tb22 f := add_owes (E := class_First_E) (Tab.env_ok tab_ok _ _ _ _) mixed Tb21_nat Tb21_owes (fn := Tryd.f39) (code := class_First_c) Tryd.func39 (by kernel_rfl) (by kernel_rfl) fun l b r b' h => by
  obtain ⟨rfl, h⟩ := noBox_some h
  obtain ⟨x0, x1, h1, h2⟩ := own2 (E := class_First_E) rfl h
  exact ⟨FUEL, (h2 _ _ _ _ _ _).trans ((class_First_eq _ x0 x1 _).trans h1)⟩
noncomputable abbrev tag_first_c : Code := Tryd.f75.body.getD .skip
def tag_first_E : Env := tab.env (fun _ => []) (fun _ => []) [] [(.int .i64)]
theorem tag_first_t (R : Type) (kk : Nat) (b_0 : Int) (K : List SV → Option Box → Option R) : evFn tag_first_E (Tb22 R) kk Tryd.f75 tag_first_c [.dat (.int .i64) b_0 []] none K =
  tag_first_s0 b_0 (fun a0 => K [.dat .bool a0 []] none) := by kernel_rfl
theorem tag_first_eq (R : Type) (b_0 : Int) (K : List SV → Option Box → Option R) : evFn tag_first_E (Tb22 R) FUEL Tryd.f75 tag_first_c [.dat (.int .i64) b_0 []] none K = (tag_first b_0).bind fun r => K [.dat .bool r []] none := by
  rw [tag_first_t]
  simp only [tag_first, tag_first_s0_bind, cond_bind, within_bind, none_bind, some_bind, sum_bind, bind_bind, Sum.elim_inl, Sum.elim_inr]
def tag_first_g : Pure := fun R l b K => noBox b (args1 (.int .i64) l (fun x0 => (tag_first x0).bind fun r => K [.dat .bool r []] none))
theorem tag_first_n : tag_first_g.Nat := fun R S l b F G K h => noBox_nat (args1_nat fun _ => bindr_nat fun _ => h _ _)
def Tb23 : Funs := Tb22.add 75 [(.int .i64)] tag_first_g
theorem Tb23_nat : Tb23.Nat := add_nat Tb22_nat tag_first_n
theorem Tb23_owes : ∀ f, Owes Tryd.prog Tb23 f := add_owes (E := tag_first_E) (Tab.env_ok tab_ok _ _ _ _) mixed Tb22_nat Tb22_owes (fn := Tryd.f75) (code := tag_first_c) Tryd.func75 (by kernel_rfl) (by kernel_rfl) fun l b r b' h => by
  obtain ⟨rfl, h⟩ := noBox_some h
  obtain ⟨x0, h1, h2⟩ := own1 (E := tag_first_E) rfl h
  exact ⟨FUEL, (h2 _ _ _ _ _ _).trans ((tag_first_eq _ x0 _).trans h1)⟩
noncomputable abbrev tag_Right_c : Code := Tryd.f76.body.getD .skip
def tag_Right_E : Env := tab.env (fun _ => []) (fun _ => []) [] [(.int .i64)]
theorem tag_Right_t (R : Type) (kk : Nat) (tag_0 : Int) (K : List SV → Option Box → Option R) : evFn tag_Right_E (Tb23 R) kk Tryd.f76 tag_Right_c [.dat (.int .i64) tag_0 []] none K =
  tag_Right_s0 tag_0 (fun a0 => K [.dat .bool a0 []] none) := by kernel_rfl
theorem tag_Right_eq (R : Type) (tag_0 : Int) (K : List SV → Option Box → Option R) : evFn tag_Right_E (Tb23 R) FUEL Tryd.f76 tag_Right_c [.dat (.int .i64) tag_0 []] none K = (tag_Right tag_0).bind fun r => K [.dat .bool r []] none := by
  rw [tag_Right_t]
  simp only [tag_Right, tag_Right_s0_bind, cond_bind, within_bind, none_bind, some_bind, sum_bind, bind_bind, Sum.elim_inl, Sum.elim_inr]
def tag_Right_g : Pure := fun R l b K => noBox b (args1 (.int .i64) l (fun x0 => (tag_Right x0).bind fun r => K [.dat .bool r []] none))
theorem tag_Right_n : tag_Right_g.Nat := fun R S l b F G K h => noBox_nat (args1_nat fun _ => bindr_nat fun _ => h _ _)
def Tb24 : Funs := Tb23.add 76 [(.int .i64)] tag_Right_g
theorem Tb24_nat : Tb24.Nat := add_nat Tb23_nat tag_Right_n
theorem Tb24_owes : ∀ f, Owes Tryd.prog Tb24 f := add_owes (E := tag_Right_E) (Tab.env_ok tab_ok _ _ _ _) mixed Tb23_nat Tb23_owes (fn := Tryd.f76) (code := tag_Right_c) Tryd.func76 (by kernel_rfl) (by kernel_rfl) fun l b r b' h => by
  obtain ⟨rfl, h⟩ := noBox_some h
  obtain ⟨x0, h1, h2⟩ := own1 (E := tag_Right_E) rfl h
  exact ⟨FUEL, (h2 _ _ _ _ _ _).trans ((tag_Right_eq _ x0 _).trans h1)⟩
noncomputable abbrev tag_Get_c : Code := Tryd.f57.body.getD .skip
def tag_Get_E : Env := tab.env (fun _ => []) (fun _ => []) [] [.str, (.int .i64)]
theorem tag_Get_t (R : Type) (kk : Nat) (b_0 : ByteArray) (at_1 : Int) (K : List SV → Option Box → Option R) : evFn tag_Get_E (Tb24 R) kk Tryd.f57 tag_Get_c [.dat .str b_0 [], .dat (.int .i64) at_1 []] none K =
  tag_Get_s0 b_0 at_1 (fun a0 a1 a2 => K [.dat (.int .i64) a0 [], .dat (.int .i64) a1 [], .dat (.int .i64) a2 []] none) := by kernel_rfl
theorem tag_Get_eq (R : Type) (b_0 : ByteArray) (at_1 : Int) (K : List SV → Option Box → Option R) : evFn tag_Get_E (Tb24 R) FUEL Tryd.f57 tag_Get_c [.dat .str b_0 [], .dat (.int .i64) at_1 []] none K = (tag_Get b_0 at_1).bind fun r => K [.dat (.int .i64) r.1 [], .dat (.int .i64) r.2.1 [], .dat (.int .i64) r.2.2 []] none := by
  rw [tag_Get_t]
  simp only [tag_Get, tag_Get_s0_bind, cond_bind, within_bind, none_bind, some_bind, sum_bind, bind_bind, Sum.elim_inl, Sum.elim_inr]
def tag_Get_g : Pure := fun R l b K => noBox b (args2 .str (.int .i64) l (fun x0 x1 => (tag_Get x0 x1).bind fun r => K [.dat (.int .i64) r.1 [], .dat (.int .i64) r.2.1 [], .dat (.int .i64) r.2.2 []] none))
theorem tag_Get_n : tag_Get_g.Nat := fun R S l b F G K h => noBox_nat (args2_nat fun _ _ => bindr_nat fun _ => h _ _)
def Tb25 : Funs := Tb24.add 57 [.str, (.int .i64)] tag_Get_g
theorem Tb25_nat : Tb25.Nat := add_nat Tb24_nat tag_Get_n
theorem Tb25_owes : ∀ f, Owes Tryd.prog Tb25 f := add_owes (E := tag_Get_E) (Tab.env_ok tab_ok _ _ _ _) mixed Tb24_nat Tb24_owes (fn := Tryd.f57) (code := tag_Get_c) Tryd.func57 (by kernel_rfl) (by kernel_rfl) fun l b r b' h => by
  obtain ⟨rfl, h⟩ := noBox_some h
  obtain ⟨x0, x1, h1, h2⟩ := own2 (E := tag_Get_E) rfl h
  exact ⟨FUEL, (h2 _ _ _ _ _ _).trans ((tag_Get_eq _ x0 x1 _).trans h1)⟩
noncomputable abbrev ber_Size_c : Code := Tryd.f77.body.getD .skip
def ber_Size_E : Env := tab.env (fun _ => []) (fun _ => []) [] [(.int .i64)]
theorem ber_Size_t (R : Type) (kk : Nat) (n_0 : Int) (K : List SV → Option Box → Option R) : evFn ber_Size_E (Tb25 R) kk Tryd.f77 ber_Size_c [.dat (.int .i64) n_0 []] none K =
  ber_Size_s0 n_0 (fun a0 => K [.dat (.int .i64) a0 []] none) := by kernel_rfl
theorem ber_Size_eq (R : Type) (n_0 : Int) (K : List SV → Option Box → Option R) : evFn ber_Size_E (Tb25 R) FUEL Tryd.f77 ber_Size_c [.dat (.int .i64) n_0 []] none K = (ber_Size n_0).bind fun r => K [.dat (.int .i64) r []] none := by
  rw [ber_Size_t]
  simp only [ber_Size, ber_Size_s0_bind, cond_bind, within_bind, none_bind, some_bind, sum_bind, bind_bind, Sum.elim_inl, Sum.elim_inr]
def ber_Size_g : Pure := fun R l b K => noBox b (args1 (.int .i64) l (fun x0 => (ber_Size x0).bind fun r => K [.dat (.int .i64) r []] none))
theorem ber_Size_n : ber_Size_g.Nat := fun R S l b F G K h => noBox_nat (args1_nat fun _ => bindr_nat fun _ => h _ _)
def Tb26 : Funs := Tb25.add 77 [(.int .i64)] ber_Size_g
theorem Tb26_nat : Tb26.Nat := add_nat Tb25_nat ber_Size_n
theorem Tb26_owes : ∀ f, Owes Tryd.prog Tb26 f := add_owes (E := ber_Size_E) (Tab.env_ok tab_ok _ _ _ _) mixed Tb25_nat Tb25_owes (fn := Tryd.f77) (code := ber_Size_c) Tryd.func77 (by kernel_rfl) (by kernel_rfl) fun l b r b' h => by
  obtain ⟨rfl, h⟩ := noBox_some h
  obtain ⟨x0, h1, h2⟩ := own1 (E := ber_Size_E) rfl h
  exact ⟨FUEL, (h2 _ _ _ _ _ _).trans ((ber_Size_eq _ x0 _).trans h1)⟩
noncomputable abbrev ber_Get_c : Code := Tryd.f58.body.getD .skip
def ber_Get_E : Env := tab.env (fun i => bif Nat.beq i 14 then [0, 1, 7, 8, 44, 45] else []) (fun i => bif Nat.beq i 14 then [1, 7, 8] else []) [] [.str, (.int .i64)]
def ber_Get_h0 (b_0 : ByteArray) (at_1 : Int) (t7 : Int) (t8 : Int) (t44 : Int) (t45 : Int) : State := ⟨[[.dat .str b_0 []], [.dat (.int .i64) at_1 []], [.undef], [.undef], [.undef], [.undef], [.undef], [.dat (.int .i64) t7 []], [.dat (.int .i64) t8 []], [.undef], [.undef], [.undef], [.undef], [.undef], [.undef], [.undef], [.undef], [.undef], [.undef], [.undef], [.undef], [.undef], [.undef], [.undef], [.undef], [.undef], [.undef], [.undef], [.undef], [.undef], [.undef], [.undef], [.undef], [.undef], [.undef], [.undef], [.undef], [.undef], [.undef], [.undef], [.undef], [.undef], [.undef], [.undef], [.dat (.int .i64) t44 []], [.dat (.int .i64) t45 []], [.undef], [.undef], [.undef], [.undef], [.undef], [.undef], [.undef], [.undef], [.undef], [.undef], [.undef], [.undef], [.undef], [.undef], [.undef], [.undef], [.undef], [.undef], [.undef], [.undef], [.undef]], [none, none, none, none, none, none, none, none, none, none, none, none, none, none, none, none, none, none, none, none, none, none, none, none, none, none, none, none, none, none, none, none, none, none, none, none, none, none, none, none, none, none, none, none, none, none, none, none, none, none, none, none, none, none, none, none, none, none, none, none, none, none, none, none, none, none, none, none]⟩
def ber_Get_x0_0 (at_1 : Int) (t7 : Int) (t8 : Int) : State := ⟨[[.undef], [.dat (.int .i64) at_1 []], [.undef], [.undef], [.undef], [.undef], [.undef], [.dat (.int .i64) t7 []], [.dat (.int .i64) t8 []], [.undef], [.undef], [.undef], [.undef], [.undef], [.undef], [.undef], [.undef], [.undef], [.undef], [.undef], [.undef], [.undef], [.undef], [.undef], [.undef], [.undef], [.undef], [.undef], [.undef], [.undef], [.undef], [.undef], [.undef], [.undef], [.undef], [.undef], [.undef], [.undef], [.undef], [.undef], [.undef], [.undef], [.undef], [.undef], [.undef], [.undef], [.undef], [.undef], [.undef], [.undef], [.undef], [.undef], [.undef], [.undef], [.undef], [.undef], [.undef], [.undef], [.undef], [.undef], [.undef], [.undef], [.undef], [.undef], [.undef], [.undef], [.undef]], [none, none, none, none, none, none, none, none, none, none, none, none, none, none, none, none, none, none, none, none, none, none, none, none, none, none, none, none, none, none, none, none, none, none, none, none, none, none, none, none, none, none, none, none, none, none, none, none, none, none, none, none, none, none, none, none, none, none, none, none, none, none, none, none, none, none, none, none]⟩
theorem ber_Get_t (R : Type) (kk : Nat) (b_0 : ByteArray) (at_1 : Int) (K : List SV → Option Box → Option R) : evFn ber_Get_E (Tb26 R) kk Tryd.f58 ber_Get_c [.dat .str b_0 [], .dat (.int .i64) at_1 []] none K =
  ber_Get_s0 b_0 at_1 (fun a0 a1 a2 => K [.dat (.int .i64) a0 [], .dat (.int .i64) a1 [], .dat (.int .i64) a2 []] none) (fun a0 a1 a2 a3 a4 a5 => loopR (ev ber_Get_E (Tb26 R) kk (sub [1, 1, 1, 1, 1, 1, 1, 0, 1, 0, 0] ber_Get_c)) [0, 1, 7, 8, 44, 45] [1, 7, 8] kk (ber_Get_h0 a0 a1 a2 a3 a4 a5) (kBlock 0 (kSeq ber_Get_E (Tb26 R) kk (sub [1, 1, 1, 1, 1, 1, 1, 1] ber_Get_c) (kFin ber_Get_E Tryd.f58.results.toList none K)))) := by kernel_rfl
theorem ber_Get_d0 (R : Type) (kk k : Nat) (b_0 : ByteArray) (at_1 : Int) (t7 : Int) (t8 : Int) (t44 : Int) (t45 : Int) (K : Ex → State → Option R) : loopR (ev ber_Get_E (Tb26 R) kk (sub [1, 1, 1, 1, 1, 1, 1, 0, 1, 0, 0] ber_Get_c)) [0, 1, 7, 8, 44, 45] [1, 7, 8] (k + 1) (ber_Get_h0 b_0 at_1 t7 t8 t44 t45) K =
  ber_Get_s1 b_0 at_1 t7 t8 t44 t45 (fun a0 a1 a2 a3 a4 a5 => loopR (ev ber_Get_E (Tb26 R) kk (sub [1, 1, 1, 1, 1, 1, 1, 0, 1, 0, 0] ber_Get_c)) [0, 1, 7, 8, 44, 45] [1, 7, 8] k (ber_Get_h0 a0 a1 a2 a3 a4 a5) K) (fun a0 a1 a2 => K (.exit 0) (ber_Get_x0_0 a0 a1 a2)) := by kernel_rfl
theorem ber_Get_y0_0 (R : Type) (kk : Nat) (at_1 : Int) (t7 : Int) (t8 : Int) (K : List SV → Option Box → Option R) : (kBlock 0 (kSeq ber_Get_E (Tb26 R) kk (sub [1, 1, 1, 1, 1, 1, 1, 1] ber_Get_c) (kFin ber_Get_E Tryd.f58.results.toList none K))) (.exit 0) (ber_Get_x0_0 at_1 t7 t8) =
  ber_Get_s2 at_1 t7 t8 (fun a0 a1 a2 => K [.dat (.int .i64) a0 [], .dat (.int .i64) a1 [], .dat (.int .i64) a2 []] none) := by kernel_rfl
theorem ber_Get_lp0 (R : Type) (k : Nat) (b_0 : ByteArray) (at_1 : Int) (t7 : Int) (t8 : Int) (t44 : Int) (t45 : Int) (K : Ex → State → Option R) : loopR (ev ber_Get_E (Tb26 R) FUEL (sub [1, 1, 1, 1, 1, 1, 1, 0, 1, 0, 0] ber_Get_c)) [0, 1, 7, 8, 44, 45] [1, 7, 8] k (ber_Get_h0 b_0 at_1 t7 t8 t44 t45) K = (ber_Get_l0 k b_0 at_1 t7 t8 t44 t45).bind fun e => K (.exit 0) (ber_Get_x0_0 e.1 e.2.1 e.2.2) := by
  induction k generalizing b_0 at_1 t7 t8 t44 t45 with
  | zero => rfl
  | succ k ih =>
    rw [ber_Get_d0]
    simp only [ber_Get_l0, ber_Get_s0_bind, ber_Get_s1_bind, ber_Get_s2_bind, ih, cond_bind, within_bind, none_bind, some_bind, sum_bind, bind_bind, Sum.elim_inl, Sum.elim_inr]
theorem ber_Get_eq (R : Type) (b_0 : ByteArray) (at_1 : Int) (K : List SV → Option Box → Option R) : evFn ber_Get_E (Tb26 R) FUEL Tryd.f58 ber_Get_c [.dat .str b_0 [], .dat (.int .i64) at_1 []] none K = (ber_Get b_0 at_1).bind fun r => K [.dat (.int .i64) r.1 [], .dat (.int .i64) r.2.1 [], .dat (.int .i64) r.2.2 []] none := by
  rw [ber_Get_t]
  simp only [ber_Get, ber_Get_s0_bind, ber_Get_s1_bind, ber_Get_s2_bind, ber_Get_lp0, ber_Get_y0_0, cond_bind, within_bind, none_bind, some_bind, sum_bind, bind_bind, Sum.elim_inl, Sum.elim_inr]
def ber_Get_g : Pure := fun R l b K => noBox b (args2 .str (.int .i64) l (fun x0 x1 => (ber_Get x0 x1).bind fun r => K [.dat (.int .i64) r.1 [], .dat (.int .i64) r.2.1 [], .dat (.int .i64) r.2.2 []] none))
theorem ber_Get_n : ber_Get_g.Nat := fun R S l b F G K h => noBox_nat (args2_nat fun _ _ => bindr_nat fun _ => h _ _)
def Tb27 : Funs := Tb26.add 58 [.str, (.int .i64)] ber_Get_g
theorem Tb27_nat : Tb27.Nat := add_nat Tb26_nat ber_Get_n
theorem Tb27_owes : ∀ f, Owes Tryd.prog Tb27 f := add_owes (E := ber_Get_E) (Tab.env_ok tab_ok _ _ _ _) mixed Tb26_nat Tb26_owes (fn := Tryd.f58) (code := ber_Get_c) Tryd.func58 (by kernel_rfl) (by kernel_rfl) fun l b r b' h => by
  obtain ⟨rfl, h⟩ := noBox_some h
  obtain ⟨x0, x1, h1, h2⟩ := own2 (E := ber_Get_E) rfl h
  exact ⟨FUEL, (h2 _ _ _ _ _ _).trans ((ber_Get_eq _ x0 x1 _).trans h1)⟩
noncomputable abbrev tlv_Get_c : Code := Tryd.f40.body.getD .skip
def tlv_Get_E : Env := tab.env (fun i => bif Nat.beq i 4 then [0, 5, 6, 7, 13] else []) (fun i => bif Nat.beq i 4 then [2, 3, 4, 5] else []) [] [.str]
def tlv_Get_h0 (b_0 : ByteArray) (t5 : (List (Int × ByteArray × Unit))) (t7 : Int) (bt6 : (List (Int × Bool))) : State := ⟨[[.dat .str b_0 []], [.undef], [.undef], [.undef], [.undef], [.dat (.sl 92 (.pair (.int .i64) (.pair .str .unit))) t5 [[]]], [.ptr 14 (.spc .mp (.int .i64) .bool) []], [.dat (.int .i64) t7 []], [.undef], [.undef], [.undef], [.undef], [.undef], [.ptr 14 (.spc .mp (.int .i64) .bool) []], [.undef], [.undef], [.undef], [.undef], [.undef], [.undef], [.undef], [.undef], [.undef], [.undef], [.undef], [.undef], [.undef], [.undef], [.undef], [.undef], [.undef], [.undef], [.undef], [.undef], [.undef], [.undef], [.undef], [.undef], [.undef], [.undef], [.undef], [.undef], [.undef], [.undef], [.undef], [.undef], [.undef], [.undef], [.undef], [.undef], [.undef], [.undef], [.undef], [.undef], [.undef], [.undef], [.undef], [.undef], [.undef], [.undef], [.undef], [.undef], [.undef], [.undef], [.undef], [.undef], [.undef], [.undef], [.undef], [.undef], [.undef], [.undef]], [none, none, none, none, none, none, none, none, none, none, none, none, none, none, some ⟨(.spc .mp (.int .i64) .bool), bt6, []⟩, none, none, none, none, none, none, none, none, none, none, none, none, none, none, none, none, none, none, none, none, none, none, none, none, none, none, none, none, none, none, none, none, none, none, none, none, none, none, none, none, none, none, none, none, none, none, none, none, none, none, none, none, none, none, none, none, none, none]⟩
def tlv_Get_x0_0 (t2 : (List (Int × ByteArray × Unit))) (t3 : Int) (t4 : Int) (t5 : (List (Int × ByteArray × Unit))) : State := ⟨[[.undef], [.undef], [.dat (.sl 92 (.pair (.int .i64) (.pair .str .unit))) t2 [[]]], [.dat (.int .i64) t3 []], [.dat (.int .i64) t4 []], [.dat (.sl 92 (.pair (.int .i64) (.pair .str .unit))) t5 [[]]], [.undef], [.undef], [.undef], [.undef], [.undef], [.undef], [.undef], [.undef], [.undef], [.undef], [.undef], [.undef], [.undef], [.undef], [.undef], [.undef], [.undef], [.undef], [.undef], [.undef], [.undef], [.undef], [.undef], [.undef], [.undef], [.undef], [.undef], [.undef], [.undef], [.undef], [.undef], [.undef], [.undef], [.undef], [.undef], [.undef], [.undef], [.undef], [.undef], [.undef], [.undef], [.undef], [.undef], [.undef], [.undef], [.undef], [.undef], [.undef], [.undef], [.undef], [.undef], [.undef], [.undef], [.undef], [.undef], [.undef], [.undef], [.undef], [.undef], [.undef], [.undef], [.undef], [.undef], [.undef], [.undef], [.undef]], [none, none, none, none, none, none, none, none, none, none, none, none, none, none, none, none, none, none, none, none, none, none, none, none, none, none, none, none, none, none, none, none, none, none, none, none, none, none, none, none, none, none, none, none, none, none, none, none, none, none, none, none, none, none, none, none, none, none, none, none, none, none, none, none, none, none, none, none, none, none, none, none, none]⟩
def tlv_Get_x0_1 (t5 : (List (Int × ByteArray × Unit))) : State := ⟨[[.undef], [.undef], [.undef], [.undef], [.undef], [.dat (.sl 92 (.pair (.int .i64) (.pair .str .unit))) t5 [[]]], [.undef], [.undef], [.undef], [.undef], [.undef], [.undef], [.undef], [.undef], [.undef], [.undef], [.undef], [.undef], [.undef], [.undef], [.undef], [.undef], [.undef], [.undef], [.undef], [.undef], [.undef], [.undef], [.undef], [.undef], [.undef], [.undef], [.undef], [.undef], [.undef], [.undef], [.undef], [.undef], [.undef], [.undef], [.undef], [.undef], [.undef], [.undef], [.undef], [.undef], [.undef], [.undef], [.undef], [.undef], [.undef], [.undef], [.undef], [.undef], [.undef], [.undef], [.undef], [.undef], [.undef], [.undef], [.undef], [.undef], [.undef], [.undef], [.undef], [.undef], [.undef], [.undef], [.undef], [.undef], [.undef], [.undef]], [none, none, none, none, none, none, none, none, none, none, none, none, none, none, none, none, none, none, none, none, none, none, none, none, none, none, none, none, none, none, none, none, none, none, none, none, none, none, none, none, none, none, none, none, none, none, none, none, none, none, none, none, none, none, none, none, none, none, none, none, none, none, none, none, none, none, none, none, none, none, none, none, none]⟩
theorem tlv_Get_t (R : Type) (kk : Nat) (b_0 : ByteArray) (K : List SV → Option Box → Option R) : evFn tlv_Get_E (Tb27 R) kk Tryd.f40 tlv_Get_c [.dat .str b_0 []] none K =
  tlv_Get_s0 b_0 (fun a0 a1 a2 a3 => loopR (ev tlv_Get_E (Tb27 R) kk (sub [1, 1, 1, 0, 1, 0, 0] tlv_Get_c)) [0, 5, 6, 7, 13] [2, 3, 4, 5] kk (tlv_Get_h0 a0 a1 a2 a3) (kBlock 0 (kSeq tlv_Get_E (Tb27 R) kk (sub [1, 1, 1, 1] tlv_Get_c) (kFin tlv_Get_E Tryd.f40.results.toList none K)))) := by kernel_rfl
theorem tlv_Get_d0 (R : Type) (kk k : Nat) (b_0 : ByteArray) (t5 : (List (Int × ByteArray × Unit))) (t7 : Int) (bt6 : (List (Int × Bool))) (K : Ex → State → Option R) : loopR (ev tlv_Get_E (Tb27 R) kk (sub [1, 1, 1, 0, 1, 0, 0] tlv_Get_c)) [0, 5, 6, 7, 13] [2, 3, 4, 5] (k + 1) (tlv_Get_h0 b_0 t5 t7 bt6) K =
  tlv_Get_s1 b_0 t5 t7 bt6 (fun a0 a1 a2 a3 => K .ret (tlv_Get_x0_0 a0 a1 a2 a3)) (fun a0 a1 a2 a3 => loopR (ev tlv_Get_E (Tb27 R) kk (sub [1, 1, 1, 0, 1, 0, 0] tlv_Get_c)) [0, 5, 6, 7, 13] [2, 3, 4, 5] k (tlv_Get_h0 a0 a1 a2 a3) K) (fun a0 => K (.exit 0) (tlv_Get_x0_1 a0)) := by kernel_rfl
theorem tlv_Get_y0_0 (R : Type) (kk : Nat) (t2 : (List (Int × ByteArray × Unit))) (t3 : Int) (t4 : Int) (t5 : (List (Int × ByteArray × Unit))) (K : List SV → Option Box → Option R) : (kBlock 0 (kSeq tlv_Get_E (Tb27 R) kk (sub [1, 1, 1, 1] tlv_Get_c) (kFin tlv_Get_E Tryd.f40.results.toList none K))) .ret (tlv_Get_x0_0 t2 t3 t4 t5) =
  tlv_Get_s2 t2 t3 t4 t5 (fun a0 a1 a2 => K [.dat (.sl 92 (.pair (.int .i64) (.pair .str .unit))) a0 [[]], .dat (.int .i64) a1 [], .dat (.int .i64) a2 []] none) := by kernel_rfl
theorem tlv_Get_y0_1 (R : Type) (kk : Nat) (t5 : (List (Int × ByteArray × Unit))) (K : List SV → Option Box → Option R) : (kBlock 0 (kSeq tlv_Get_E (Tb27 R) kk (sub [1, 1, 1, 1] tlv_Get_c) (kFin tlv_Get_E Tryd.f40.results.toList none K))) (.exit 0) (tlv_Get_x0_1 t5) =
  tlv_Get_s3 t5 (fun a0 a1 a2 => K [.dat (.sl 92 (.pair (.int .i64) (.pair .str .unit))) a0 [], .dat (.int .i64) a1 [], .dat (.int .i64) a2 []] none) := by kernel_rfl
theorem tlv_Get_lp0 (R : Type) (k : Nat) (b_0 : ByteArray) (t5 : (List (Int × ByteArray × Unit))) (t7 : Int) (bt6 : (List (Int × Bool))) (K : Ex → State → Option R) : loopR (ev tlv_Get_E (Tb27 R) FUEL (sub [1, 1, 1, 0, 1, 0, 0] tlv_Get_c)) [0, 5, 6, 7, 13] [2, 3, 4, 5] k (tlv_Get_h0 b_0 t5 t7 bt6) K = (tlv_Get_l0 k b_0 t5 t7 bt6).bind fun e => (Sum.elim (fun (we : ((List (Int × ByteArray × Unit)) × Int × Int × (List (Int × ByteArray × Unit)))) => K .ret (tlv_Get_x0_0 we.1 we.2.1 we.2.2.1 we.2.2.2)) (fun (we : (List (Int × ByteArray × Unit))) => K (.exit 0) (tlv_Get_x0_1 we)) e) := by
  induction k generalizing b_0 t5 t7 bt6 with
  | zero => rfl
  | succ k ih =>
    rw [tlv_Get_d0]
    simp only [tlv_Get_l0, tlv_Get_s0_bind, tlv_Get_s1_bind, tlv_Get_s2_bind, tlv_Get_s3_bind, ih, cond_bind, within_bind, none_bind, some_bind, sum_bind, bind_bind, Sum.elim_inl, Sum.elim_inr]
theorem tlv_Get_eq (R : Type) (b_0 : ByteArray) (K : List SV → Option Box → Option R) : evFn tlv_Get_E (Tb27 R) FUEL Tryd.f40 tlv_Get_c [.dat .str b_0 []] none K = (tlv_Get b_0).bind fun r => (Sum.elim (fun (wr : ((List (Int × ByteArray × Unit)) × Int × Int)) => K [.dat (.sl 92 (.pair (.int .i64) (.pair .str .unit))) wr.1 [[]], .dat (.int .i64) wr.2.1 [], .dat (.int .i64) wr.2.2 []] none) (fun (wr : ((List (Int × ByteArray × Unit)) × Int × Int)) => K [.dat (.sl 92 (.pair (.int .i64) (.pair .str .unit))) wr.1 [], .dat (.int .i64) wr.2.1 [], .dat (.int .i64) wr.2.2 []] none) r) := by
  rw [tlv_Get_t]
  simp only [tlv_Get, tlv_Get_s0_bind, tlv_Get_s1_bind, tlv_Get_s2_bind, tlv_Get_s3_bind, tlv_Get_lp0, tlv_Get_y0_0, tlv_Get_y0_1, cond_bind, within_bind, none_bind, some_bind, sum_bind, bind_bind, Sum.elim_inl, Sum.elim_inr]
def tlv_Get_g : Pure := fun R l b K => noBox b (args1 .str l (fun x0 => (tlv_Get x0).bind fun r => (Sum.elim (fun (wr : ((List (Int × ByteArray × Unit)) × Int × Int)) => K [.dat (.sl 92 (.pair (.int .i64) (.pair .str .unit))) wr.1 [[]], .dat (.int .i64) wr.2.1 [], .dat (.int .i64) wr.2.2 []] none) (fun (wr : ((List (Int × ByteArray × Unit)) × Int × Int)) => K [.dat (.sl 92 (.pair (.int .i64) (.pair .str .unit))) wr.1 [], .dat (.int .i64) wr.2.1 [], .dat (.int .i64) wr.2.2 []] none) r)))
theorem tlv_Get_n : tlv_Get_g.Nat := fun R S l b F G K h => noBox_nat (args1_nat fun _ => bindr_nat fun _ => sum_nat (fun _ => h _ _) (fun _ => h _ _))
def Tb28 : Funs := Tb27.add 40 [.str] tlv_Get_g
theorem Tb28_nat : Tb28.Nat := add_nat Tb27_nat tlv_Get_n
theorem Tb28_owes : ∀ f, Owes Tryd.prog Tb28 f := add_owes (E := tlv_Get_E) (Tab.env_ok tab_ok _ _ _ _) mixed Tb27_nat Tb27_owes (fn := Tryd.f40) (code := tlv_Get_c) Tryd.func40 (by kernel_rfl) (by kernel_rfl) fun l b r b' h => by
  obtain ⟨rfl, h⟩ := noBox_some h
  obtain ⟨x0, h1, h2⟩ := own1 (E := tlv_Get_E) rfl h
  exact ⟨FUEL, (h2 _ _ _ _ _ _).trans ((tlv_Get_eq _ x0 _).trans h1)⟩
noncomputable abbrev spec_Value_c : Code := Tryd.f21.body.getD .skip
def spec_Value_E : Env := tab.env (fun _ => []) (fun _ => []) [] [y5, .str]
theorem spec_Value_t (R : Type) (kk : Nat) (s_0 : (Int × Int × Int × Int × Int × Unit)) (text_1 : ByteArray) (K : List SV → Option Box → Option R) : evFn spec_Value_E (Tb28 R) kk Tryd.f21 spec_Value_c [.dat y5 s_0 [], .dat .str text_1 []] none K =
  spec_Value_s0 s_0 text_1 (fun a0 => K [.dat (.int .i64) a0 []] none) := by kernel_rfl
theorem spec_Value_eq (R : Type) (s_0 : (Int × Int × Int × Int × Int × Unit)) (text_1 : ByteArray) (K : List SV → Option Box → Option R) : evFn spec_Value_E (Tb28 R) FUEL Tryd.f21 spec_Value_c [.dat y5 s_0 [], .dat .str text_1 []] none K = (spec_Value s_0 text_1).bind fun r => K [.dat (.int .i64) r []] none := by
  rw [spec_Value_t]
  simp only [spec_Value, spec_Value_s0_bind, cond_bind, within_bind, none_bind, some_bind, sum_bind, bind_bind, Sum.elim_inl, Sum.elim_inr]
def spec_Value_g : Pure := fun R l b K => noBox b (args2 y5 .str l (fun x0 x1 => (spec_Value x0 x1).bind fun r => K [.dat (.int .i64) r []] none))
theorem spec_Value_n : spec_Value_g.Nat := fun R S l b F G K h => noBox_nat (args2_nat fun _ _ => bindr_nat fun _ => h _ _)
def Tb29 : Funs := Tb28.add 21 [y5, .str] spec_Value_g
theorem Tb29_nat : Tb29.Nat := add_nat Tb28_nat spec_Value_n
theorem Tb29_owes : ∀ f, Owes Tryd.prog Tb29 f := add_owes (E := spec_Value_E) (Tab.env_ok tab_ok _ _ _ _) mixed Tb28_nat Tb28_owes (fn := Tryd.f21) (code := spec_Value_c) Tryd.func21 (by kernel_rfl) (by kernel_rfl) fun l b r b' h => by
  obtain ⟨rfl, h⟩ := noBox_some h
  obtain ⟨x0, x1, h1, h2⟩ := own2 (E := spec_Value_E) rfl h
  exact ⟨FUEL, (h2 _ _ _ _ _ _).trans ((spec_Value_eq _ x0 x1 _).trans h1)⟩
noncomputable abbrev rule_padded_c : Code := Tryd.f22.body.getD .skip
def rule_padded_E : Env := tab.env (fun _ => []) (fun _ => []) [] [y5]
theorem rule_padded_t (R : Type) (kk : Nat) (s_0 : (Int × Int × Int × Int × Int × Unit)) (K : List SV → Option Box → Option R) : evFn rule_padded_E (Tb29 R) kk Tryd.f22 rule_padded_c [.dat y5 s_0 []] none K =
  rule_padded_s0 s_0 (fun a0 => K [.dat .bool a0 []] none) := by kernel_rfl
theorem rule_padded_eq (R : Type) (s_0 : (Int × Int × Int × Int × Int × Unit)) (K : List SV → Option Box → Option R) : evFn rule_padded_E (Tb29 R) FUEL Tryd.f22 rule_padded_c [.dat y5 s_0 []] none K = (rule_padded s_0).bind fun r => K [.dat .bool r []] none := by
  rw [rule_padded_t]
  simp only [rule_padded, rule_padded_s0_bind, cond_bind, within_bind, none_bind, some_bind, sum_bind, bind_bind, Sum.elim_inl, Sum.elim_inr]
def rule_padded_g : Pure := fun R l b K => noBox b (args1 y5 l (fun x0 => (rule_padded x0).bind fun r => K [.dat .bool r []] none))
theorem rule_padded_n : rule_padded_g.Nat := fun R S l b F G K h => noBox_nat (args1_nat fun _ => bindr_nat fun _ => h _ _)
def Tb30 : Funs := Tb29.add 22 [y5] rule_padded_g
theorem Tb30_nat : Tb30.Nat := add_nat Tb29_nat rule_padded_n
theorem Tb30_owes : ∀ f, Owes Tryd.prog Tb30 f := add_owes (E := rule_padded_E) (Tab.env_ok tab_ok _ _ _ _) mixed Tb29_nat Tb29_owes (fn := Tryd.f22) (code := rule_padded_c) Tryd.func22 (by kernel_rfl) (by kernel_rfl) fun l b r b' h => by
  obtain ⟨rfl, h⟩ := noBox_some h
  obtain ⟨x0, h1, h2⟩ := own1 (E := rule_padded_E) rfl h
  exact ⟨FUEL, (h2 _ _ _ _ _ _).trans ((rule_padded_eq _ x0 _).trans h1)⟩
noncomputable abbrev codes_Check_c : Code := Tryd.f41.body.getD .skip
def codes_Check_E : Env := tab.env (fun i => bif Nat.beq i 5 then [4, 10, 11, 12, 13] else []) (fun i => bif Nat.beq i 5 then [2, 3] else []) [] [(.sl 53 (.pair .str (.pair .str .unit)))]
def codes_Check_h0 (t11 : (List (ByteArray × ByteArray × Unit))) (t12 : Int) (t13 : Int) (bt4 : (List (ByteArray × Bool))) : State := ⟨[[.undef], [.undef], [.undef], [.undef], [.ptr 11 (.spc .mp .str .bool) []], [.undef], [.undef], [.undef], [.undef], [.undef], [.ptr 11 (.spc .mp .str .bool) []], [.dat (.sl 53 (.pair .str (.pair .str .unit))) t11 []], [.dat (.int .i64) t12 []], [.dat (.int .i64) t13 []], [.undef], [.undef], [.undef], [.undef], [.undef], [.undef], [.undef], [.undef], [.undef], [.undef], [.undef], [.undef], [.undef]], [none, none, none, none, none, none, none, none, none, none, none, some ⟨(.spc .mp .str .bool), bt4, []⟩, none, none, none, none, none, none, none, none, none, none, none, none, none, none, none, none]⟩
def codes_Check_x0_0 (t2 : Int) (t3 : Int) : State := ⟨[[.undef], [.undef], [.dat (.int .i64) t2 []], [.dat (.int .i64) t3 []], [.undef], [.undef], [.undef], [.undef], [.undef], [.undef], [.undef], [.undef], [.undef], [.undef], [.undef], [.undef], [.undef], [.undef], [.undef], [.undef], [.undef], [.undef], [.undef], [.undef], [.undef], [.undef], [.undef]], [none, none, none, none, none, none, none, none, none, none, none, none, none, none, none, none, none, none, none, none, none, none, none, none, none, none, none, none]⟩
def codes_Check_x0_1  : State := ⟨[[.undef], [.undef], [.undef], [.undef], [.undef], [.undef], [.undef], [.undef], [.undef], [.undef], [.undef], [.undef], [.undef], [.undef], [.undef], [.undef], [.undef], [.undef], [.undef], [.undef], [.undef], [.undef], [.undef], [.undef], [.undef], [.undef], [.undef]], [none, none, none, none, none, none, none, none, none, none, none, none, none, none, none, none, none, none, none, none, none, none, none, none, none, none, none, none]⟩
theorem codes_Check_t (R : Type) (kk : Nat) (l_0 : (List (ByteArray × ByteArray × Unit))) (K : List SV → Option Box → Option R) : evFn codes_Check_E (Tb30 R) kk Tryd.f41 codes_Check_c [.dat (.sl 53 (.pair .str (.pair .str .unit))) l_0 []] none K =
  codes_Check_s0 l_0 (fun a0 a1 => K [.dat (.int .i64) a0 [], .dat (.int .i64) a1 []] none) (fun a0 a1 a2 a3 => loopR (ev codes_Check_E (Tb30 R) kk (sub [1, 1, 1, 0, 1, 0, 0] codes_Check_c)) [4, 10, 11, 12, 13] [2, 3] kk (codes_Check_h0 a0 a1 a2 a3) (kBlock 0 (kSeq codes_Check_E (Tb30 R) kk (sub [1, 1, 1, 1] codes_Check_c) (kFin codes_Check_E Tryd.f41.results.toList none K)))) := by kernel_rfl
theorem codes_Check_d0 (R : Type) (kk k : Nat) (t11 : (List (ByteArray × ByteArray × Unit))) (t12 : Int) (t13 : Int) (bt4 : (List (ByteArray × Bool))) (K : Ex → State → Option R) : loopR (ev codes_Check_E (Tb30 R) kk (sub [1, 1, 1, 0, 1, 0, 0] codes_Check_c)) [4, 10, 11, 12, 13] [2, 3] (k + 1) (codes_Check_h0 t11 t12 t13 bt4) K =
  codes_Check_s1 t11 t12 t13 bt4 (fun a0 a1 => K .ret (codes_Check_x0_0 a0 a1)) (fun a0 a1 a2 a3 => loopR (ev codes_Check_E (Tb30 R) kk (sub [1, 1, 1, 0, 1, 0, 0] codes_Check_c)) [4, 10, 11, 12, 13] [2, 3] k (codes_Check_h0 a0 a1 a2 a3) K) (K (.exit 0) (codes_Check_x0_1)) := by kernel_rfl
theorem codes_Check_y0_0 (R : Type) (kk : Nat) (t2 : Int) (t3 : Int) (K : List SV → Option Box → Option R) : (kBlock 0 (kSeq codes_Check_E (Tb30 R) kk (sub [1, 1, 1, 1] codes_Check_c) (kFin codes_Check_E Tryd.f41.results.toList none K))) .ret (codes_Check_x0_0 t2 t3) =
  codes_Check_s2 t2 t3 (fun a0 a1 => K [.dat (.int .i64) a0 [], .dat (.int .i64) a1 []] none) := by kernel_rfl
theorem codes_Check_y0_1 (R : Type) (kk : Nat)  (K : List SV → Option Box → Option R) : (kBlock 0 (kSeq codes_Check_E (Tb30 R) kk (sub [1, 1, 1, 1] codes_Check_c) (kFin codes_Check_E Tryd.f41.results.toList none K))) (.exit 0) (codes_Check_x0_1) =
  codes_Check_s3 (fun a0 a1 => K [.dat (.int .i64) a0 [], .dat (.int .i64) a1 []] none) := by kernel_rfl
theorem codes_Check_lp0 (R : Type) (k : Nat) (t11 : (List (ByteArray × ByteArray × Unit))) (t12 : Int) (t13 : Int) (bt4 : (List (ByteArray × Bool))) (K : Ex → State → Option R) : loopR (ev codes_Check_E (Tb30 R) FUEL (sub [1, 1, 1, 0, 1, 0, 0] codes_Check_c)) [4, 10, 11, 12, 13] [2, 3] k (codes_Check_h0 t11 t12 t13 bt4) K = (codes_Check_l0 k t11 t12 t13 bt4).bind fun e => (Sum.elim (fun (we : (Int × Int)) => K .ret (codes_Check_x0_0 we.1 we.2)) (fun (we : Unit) => K (.exit 0) (codes_Check_x0_1)) e) := by
  induction k generalizing t11 t12 t13 bt4 with
  | zero => rfl
  | succ k ih =>
    rw [codes_Check_d0]
    simp only [codes_Check_l0, codes_Check_s0_bind, codes_Check_s1_bind, codes_Check_s2_bind, codes_Check_s3_bind, ih, cond_bind, within_bind, none_bind, some_bind, sum_bind, bind_bind, Sum.elim_inl, Sum.elim_inr]
theorem codes_Check_eq (R : Type) (l_0 : (List (ByteArray × ByteArray × Unit))) (K : List SV → Option Box → Option R) : evFn codes_Check_E (Tb30 R) FUEL Tryd.f41 codes_Check_c [.dat (.sl 53 (.pair .str (.pair .str .unit))) l_0 []] none K = (codes_Check l_0).bind fun r => K [.dat (.int .i64) r.1 [], .dat (.int .i64) r.2 []] none := by
  rw [codes_Check_t]
  simp only [codes_Check, codes_Check_s0_bind, codes_Check_s1_bind, codes_Check_s2_bind, codes_Check_s3_bind, codes_Check_lp0, codes_Check_y0_0, codes_Check_y0_1, cond_bind, within_bind, none_bind, some_bind, sum_bind, bind_bind, Sum.elim_inl, Sum.elim_inr]
def codes_Check_g : Pure := fun R l b K => noBox b (args1 (.sl 53 (.pair .str (.pair .str .unit))) l (fun x0 => (codes_Check x0).bind fun r => K [.dat (.int .i64) r.1 [], .dat (.int .i64) r.2 []] none))
theorem codes_Check_n : codes_Check_g.Nat := fun R S l b F G K h => noBox_nat (args1_nat fun _ => bindr_nat fun _ => h _ _)
def Tb31 : Funs := Tb30.add 41 [(.sl 53 (.pair .str (.pair .str .unit)))] codes_Check_g
theorem Tb31_nat : Tb31.Nat := add_nat Tb30_nat codes_Check_n
theorem Tb31_owes : ∀ f, Owes Tryd.prog Tb31 f := add_owes (E := codes_Check_E) (Tab.env_ok tab_ok _ _ _ _) mixed Tb30_nat Tb30_owes (fn := Tryd.f41) (code := codes_Check_c) Tryd.func41 (by kernel_rfl) (by kernel_rfl) fun l b r b' h => by
  obtain ⟨rfl, h⟩ := noBox_some h
  obtain ⟨x0, h1, h2⟩ := own1 (E := codes_Check_E) rfl h
  exact ⟨FUEL, (h2 _ _ _ _ _ _).trans ((codes_Check_eq _ x0 _).trans h1)⟩
noncomputable abbrev rule_table_c : Code := Tryd.f23.body.getD .skip
def rule_table_E : Env := tab.env (fun i => bif Nat.beq i 5 then [4, 5, 25, 26, 27] else []) (fun i => bif Nat.beq i 5 then [6] else []) [] [(.sl 53 (.pair .str (.pair .str .unit))), y5, y5]
def rule_table_h0 (t25 : (List (ByteArray × ByteArray × Unit))) (t26 : Int) (t27 : Int) (bt4 : (Int × Int × Int × Int × Int × Unit)) (bt5 : (Int × Int × Int × Int × Int × Unit)) : State := ⟨[[.undef], [.undef], [.undef], [.undef], [.ptr 5 y5 []], [.ptr 6 y5 []], [.undef], [.undef], [.undef], [.undef], [.undef], [.undef], [.undef], [.undef], [.undef], [.undef], [.undef], [.undef], [.undef], [.undef], [.undef], [.undef], [.undef], [.undef], [.undef], [.dat (.sl 53 (.pair .str (.pair .str .unit))) t25 []], [.dat (.int .i64) t26 []], [.dat (.int .i64) t27 []], [.undef], [.undef], [.undef], [.undef], [.undef], [.undef], [.undef], [.undef], [.undef], [.undef], [.undef], [.undef], [.undef], [.undef], [.undef], [.undef], [.undef], [.undef]], [none, none, none, none, none, some ⟨y5, bt4, []⟩, some ⟨y5, bt5, []⟩, none, none, none, none, none, none, none, none, none, none, none, none, none, none, none, none, none, none, none, none, none, none, none, none, none, none, none, none, none, none, none, none, none, none, none, none, none, none, none, none]⟩
def rule_table_x0_0 (t6 : Int) : State := ⟨[[.undef], [.undef], [.undef], [.undef], [.undef], [.undef], [.dat (.int .i64) t6 []], [.undef], [.undef], [.undef], [.undef], [.undef], [.undef], [.undef], [.undef], [.undef], [.undef], [.undef], [.undef], [.undef], [.undef], [.undef], [.undef], [.undef], [.undef], [.undef], [.undef], [.undef], [.undef], [.undef], [.undef], [.undef], [.undef], [.undef], [.undef], [.undef], [.undef], [.undef], [.undef], [.undef], [.undef], [.undef], [.undef], [.undef], [.undef], [.undef]], [none, none, none, none, none, none, none, none, none, none, none, none, none, none, none, none, none, none, none, none, none, none, none, none, none, none, none, none, none, none, none, none, none, none, none, none, none, none, none, none, none, none, none, none, none, none, none]⟩
def rule_table_x0_1  : State := ⟨[[.undef], [.undef], [.undef], [.undef], [.undef], [.undef], [.undef], [.undef], [.undef], [.undef], [.undef], [.undef], [.undef], [.undef], [.undef], [.undef], [.undef], [.undef], [.undef], [.undef], [.undef], [.undef], [.undef], [.undef], [.undef], [.undef], [.undef], [.undef], [.undef], [.undef], [.undef], [.undef], [.undef], [.undef], [.undef], [.undef], [.undef], [.undef], [.undef], [.undef], [.undef], [.undef], [.undef], [.undef], [.undef], [.undef]], [none, none, none, none, none, none, none, none, none, none, none, none, none, none, none, none, none, none, none, none, none, none, none, none, none, none, none, none, none, none, none, none, none, none, none, none, none, none, none, none, none, none, none, none, none, none, none]⟩
theorem rule_table_t (R : Type) (kk : Nat) (l_0 : (List (ByteArray × ByteArray × Unit))) (from_1 : (Int × Int × Int × Int × Int × Unit)) (to_2 : (Int × Int × Int × Int × Int × Unit)) (K : List SV → Option Box → Option R) : evFn rule_table_E (Tb31 R) kk Tryd.f23 rule_table_c [.dat (.sl 53 (.pair .str (.pair .str .unit))) l_0 [], .dat y5 from_1 [], .dat y5 to_2 []] none K =
  rule_table_s0 l_0 from_1 to_2 (fun a0 => K [.dat (.int .i64) a0 []] none) (fun a0 a1 a2 a3 a4 => loopR (ev rule_table_E (Tb31 R) kk (sub [1, 1, 0, 1, 0, 0] rule_table_c)) [4, 5, 25, 26, 27] [6] kk (rule_table_h0 a0 a1 a2 a3 a4) (kBlock 0 (kSeq rule_table_E (Tb31 R) kk (sub [1, 1, 1] rule_table_c) (kFin rule_table_E Tryd.f23.results.toList none K)))) := by kernel_rfl
theorem rule_table_d0 (R : Type) (kk k : Nat) (t25 : (List (ByteArray × ByteArray × Unit))) (t26 : Int) (t27 : Int) (bt4 : (Int × Int × Int × Int × Int × Unit)) (bt5 : (Int × Int × Int × Int × Int × Unit)) (K : Ex → State → Option R) : loopR (ev rule_table_E (Tb31 R) kk (sub [1, 1, 0, 1, 0, 0] rule_table_c)) [4, 5, 25, 26, 27] [6] (k + 1) (rule_table_h0 t25 t26 t27 bt4 bt5) K =
  rule_table_s1 t25 t26 t27 bt4 bt5 (fun a0 => K .ret (rule_table_x0_0 a0)) (fun a0 a1 a2 a3 a4 => loopR (ev rule_table_E (Tb31 R) kk (sub [1, 1, 0, 1, 0, 0] rule_table_c)) [4, 5, 25, 26, 27] [6] k (rule_table_h0 a0 a1 a2 a3 a4) K) (K (.exit 0) (rule_table_x0_1)) := by kernel_rfl
theorem rule_table_y0_0 (R : Type) (kk : Nat) (t6 : Int) (K : List SV → Option Box → Option R) : (kBlock 0 (kSeq rule_table_E (Tb31 R) kk (sub [1, 1, 1] rule_table_c) (kFin rule_table_E Tryd.f23.results.toList none K))) .ret (rule_table_x0_0 t6) =
  rule_table_s2 t6 (fun a0 => K [.dat (.int .i64) a0 []] none) := by kernel_rfl
theorem rule_table_y0_1 (R : Type) (kk : Nat)  (K : List SV → Option Box → Option R) : (kBlock 0 (kSeq rule_table_E (Tb31 R) kk (sub [1, 1, 1] rule_table_c) (kFin rule_table_E Tryd.f23.results.toList none K))) (.exit 0) (rule_table_x0_1) =
  rule_table_s3 (fun a0 => K [.dat (.int .i64) a0 []] none) := by kernel_rfl
theorem rule_table_lp0 (R : Type) (k : Nat) (t25 : (List (ByteArray × ByteArray × Unit))) (t26 : Int) (t27 : Int) (bt4 : (Int × Int × Int × Int × Int × Unit)) (bt5 : (Int × Int × Int × Int × Int × Unit)) (K : Ex → State → Option R) : loopR (ev rule_table_E (Tb31 R) FUEL (sub [1, 1, 0, 1, 0, 0] rule_table_c)) [4, 5, 25, 26, 27] [6] k (rule_table_h0 t25 t26 t27 bt4 bt5) K = (rule_table_l0 k t25 t26 t27 bt4 bt5).bind fun e => (Sum.elim (fun (we : Int) => K .ret (rule_table_x0_0 we)) (fun (we : Unit) => K (.exit 0) (rule_table_x0_1)) e) := by
  induction k generalizing t25 t26 t27 bt4 bt5 with
  | zero => rfl
  | succ k ih =>
    rw [rule_table_d0]
    simp only [rule_table_l0, rule_table_s0_bind, rule_table_s1_bind, rule_table_s2_bind, rule_table_s3_bind, ih, cond_bind, within_bind, none_bind, some_bind, sum_bind, bind_bind, Sum.elim_inl, Sum.elim_inr]
theorem rule_table_eq (R : Type) (l_0 : (List (ByteArray × ByteArray × Unit))) (from_1 : (Int × Int × Int × Int × Int × Unit)) (to_2 : (Int × Int × Int × Int × Int × Unit)) (K : List SV → Option Box → Option R) : evFn rule_table_E (Tb31 R) FUEL Tryd.f23 rule_table_c [.dat (.sl 53 (.pair .str (.pair .str .unit))) l_0 [], .dat y5 from_1 [], .dat y5 to_2 []] none K = (rule_table l_0 from_1 to_2).bind fun r => K [.dat (.int .i64) r []] none := by
  rw [rule_table_t]
  simp only [rule_table, rule_table_s0_bind, rule_table_s1_bind, rule_table_s2_bind, rule_table_s3_bind, rule_table_lp0, rule_table_y0_0, rule_table_y0_1, cond_bind, within_bind, none_bind, some_bind, sum_bind, bind_bind, Sum.elim_inl, Sum.elim_inr]
def rule_table_g : Pure := fun R l b K => noBox b (args3 (.sl 53 (.pair .str (.pair .str .unit))) y5 y5 l (fun x0 x1 x2 => (rule_table x0 x1 x2).bind fun r => K [.dat (.int .i64) r []] none))
theorem rule_table_n : rule_table_g.Nat := fun R S l b F G K h => noBox_nat (args3_nat fun _ _ _ => bindr_nat fun _ => h _ _)
def Tb32 : Funs := Tb31.add 23 [(.sl 53 (.pair .str (.pair .str .unit))), y5, y5] rule_table_g
theorem Tb32_nat : Tb32.Nat := add_nat Tb31_nat rule_table_n
theorem Tb32_owes : ∀ f, Owes Tryd.prog Tb32 f := add_owes (E := rule_table_E) (Tab.env_ok tab_ok _ _ _ _) mixed Tb31_nat Tb31_owes (fn := Tryd.f23) (code := rule_table_c) Tryd.func23 (by kernel_rfl) (by kernel_rfl) fun l b r b' h => by
  obtain ⟨rfl, h⟩ := noBox_some h
  obtain ⟨x0, x1, x2, h1, h2⟩ := own3 (E := rule_table_E) rfl h
  exact ⟨FUEL, (h2 _ _ _ _ _ _).trans ((rule_table_eq _ x0 x1 x2 _).trans h1)⟩
noncomputable abbrev rule_Check_c : Code := Tryd.f9.body.getD .skip
def rule_Check_E : Env := tab.env (fun _ => []) (fun _ => []) [] [y7, y10, y10]
theorem rule_Check_t (R : Type) (kk : Nat) (r_0 : (Int × Int × Int × ByteArray × (List (ByteArray × ByteArray × Unit)) × Unit)) (a_1 : (Int × Int × (List (Int × Int × Int × Int × Int × Unit)) × Unit)) (b_2 : (Int × Int × (List (Int × Int × Int × Int × Int × Unit)) × Unit)) (K : List SV → Option Box → Option R) : evFn rule_Check_E (Tb32 R) kk Tryd.f9 rule_Check_c [.dat y7 r_0 [], .dat y10 a_1 [], .dat y10 b_2 []] none K =
  rule_Check_s0 r_0 a_1 b_2 (fun a0 => K [.dat (.int .i64) a0 []] none) := by kernel_rfl
theorem rule_Check_eq (R : Type) (r_0 : (Int × Int × Int × ByteArray × (List (ByteArray × ByteArray × Unit)) × Unit)) (a_1 : (Int × Int × (List (Int × Int × Int × Int × Int × Unit)) × Unit)) (b_2 : (Int × Int × (List (Int × Int × Int × Int × Int × Unit)) × Unit)) (K : List SV → Option Box → Option R) : evFn rule_Check_E (Tb32 R) FUEL Tryd.f9 rule_Check_c [.dat y7 r_0 [], .dat y10 a_1 [], .dat y10 b_2 []] none K = (rule_Check r_0 a_1 b_2).bind fun r => K [.dat (.int .i64) r []] none := by
  rw [rule_Check_t]
  simp only [rule_Check, rule_Check_s0_bind, cond_bind, within_bind, none_bind, some_bind, sum_bind, bind_bind, Sum.elim_inl, Sum.elim_inr]
def rule_Check_g : Pure := fun R l b K => noBox b (args3 y7 y10 y10 l (fun x0 x1 x2 => (rule_Check x0 x1 x2).bind fun r => K [.dat (.int .i64) r []] none))
theorem rule_Check_n : rule_Check_g.Nat := fun R S l b F G K h => noBox_nat (args3_nat fun _ _ _ => bindr_nat fun _ => h _ _)
def Tb33 : Funs := Tb32.add 9 [y7, y10, y10] rule_Check_g
theorem Tb33_nat : Tb33.Nat := add_nat Tb32_nat rule_Check_n
theorem Tb33_owes : ∀ f, Owes Tryd.prog Tb33 f := add_owes (E := rule_Check_E) (Tab.env_ok tab_ok _ _ _ _) mixed Tb32_nat Tb32_owes (fn := Tryd.f9) (code := rule_Check_c) Tryd.func9 (by kernel_rfl) (by kernel_rfl) fun l b r b' h => by
  obtain ⟨rfl, h⟩ := noBox_some h
  obtain ⟨x0, x1, x2, h1, h2⟩ := own3 (E := rule_Check_E) rfl h
  exact ⟨FUEL, (h2 _ _ _ _ _ _).trans ((rule_Check_eq _ x0 x1 x2 _).trans h1)⟩
noncomputable abbrev groatlaw20_awake_c : Code := Tryd.f7.body.getD .skip
def groatlaw20_awake_E : Env := tab.env (fun _ => []) (fun _ => []) [] []
theorem groatlaw20_awake_t (R : Type) (kk : Nat)  (K : List SV → Option Box → Option R) : evFn groatlaw20_awake_E (Tb33 R) kk Tryd.f7 groatlaw20_awake_c [] none K =
  groatlaw20_awake_s0 (fun a0 => K [.dat .bool a0 []] none) := by kernel_rfl
theorem groatlaw20_awake_eq (R : Type)  (K : List SV → Option Box → Option R) : evFn groatlaw20_awake_E (Tb33 R) FUEL Tryd.f7 groatlaw20_awake_c [] none K = (groatlaw20_awake).bind fun r => K [.dat .bool r []] none := by
  rw [groatlaw20_awake_t]
  simp only [groatlaw20_awake, groatlaw20_awake_s0_bind, cond_bind, within_bind, none_bind, some_bind, sum_bind, bind_bind, Sum.elim_inl, Sum.elim_inr]
def groatlaw20_awake_g : Pure := fun R l b K => noBox b (args0 l ((groatlaw20_awake).bind fun r => K [.dat .bool r []] none))
theorem groatlaw20_awake_n : groatlaw20_awake_g.Nat := fun R S l b F G K h => noBox_nat (args0_nat (bindr_nat fun _ => h _ _))
def Tb34 : Funs := Tb33.add 7 [] groatlaw20_awake_g
theorem Tb34_nat : Tb34.Nat := add_nat Tb33_nat groatlaw20_awake_n
theorem Tb34_owes : ∀ f, Owes Tryd.prog Tb34 f := add_owes (E := groatlaw20_awake_E) (Tab.env_ok tab_ok _ _ _ _) mixed Tb33_nat Tb33_owes (fn := Tryd.f7) (code := groatlaw20_awake_c) Tryd.func7 (by kernel_rfl) (by kernel_rfl) fun l b r b' h => by
  obtain ⟨rfl, h⟩ := noBox_some h
  obtain ⟨h1, h2⟩ := own0 (E := groatlaw20_awake_E) rfl h
  exact ⟨FUEL, (h2 _ _ _ _ _ _).trans ((groatlaw20_awake_eq _  _).trans h1)⟩
noncomputable abbrev groatref11_Check_c : Code := Tryd.f33.body.getD .skip
def groatref11_Check_E : Env := tab.env (fun _ => []) (fun _ => []) [] [y5]
theorem groatref11_Check_t (R : Type) (kk : Nat) (s_0 : (Int × Int × Int × Int × Int × Unit)) (K : List SV → Option Box → Option R) : evFn groatref11_Check_E (Tb34 R) kk Tryd.f33 groatref11_Check_c [.dat y5 s_0 []] none K =
  groatref11_Check_s0 s_0 (fun a0 => K [.dat (.int .i64) a0 []] none) := by kernel_rfl
theorem groatref11_Check_eq (R : Type) (s_0 : (Int × Int × Int × Int × Int × Unit)) (K : List SV → Option Box → Option R) : evFn groatref11_Check_E (Tb34 R) FUEL Tryd.f33 groatref11_Check_c [.dat y5 s_0 []] none K = (groatref11_Check s_0).bind fun r => K [.dat (.int .i64) r []] none := by
  rw [groatref11_Check_t]
  simp only [groatref11_Check, groatref11_Check_s0_bind, cond_bind, within_bind, none_bind, some_bind, sum_bind, bind_bind, Sum.elim_inl, Sum.elim_inr]
def groatref11_Check_g : Pure := fun R l b K => noBox b (args1 y5 l (fun x0 => (groatref11_Check x0).bind fun r => K [.dat (.int .i64) r []] none))
theorem groatref11_Check_n : groatref11_Check_g.Nat := fun R S l b F G K h => noBox_nat (args1_nat fun _ => bindr_nat fun _ => h _ _)
def Tb35 : Funs := Tb34.add 33 [y5] groatref11_Check_g
theorem Tb35_nat : Tb35.Nat := add_nat Tb34_nat groatref11_Check_n
theorem Tb35_owes : ∀ f, Owes Tryd.prog Tb35 f := add_owes (E := groatref11_Check_E) (Tab.env_ok tab_ok _ _ _ _) mixed Tb34_nat Tb34_owes (fn := Tryd.f33) (code := groatref11_Check_c) Tryd.func33 (by kernel_rfl) (by kernel_rfl) fun l b r b' h => by
  obtain ⟨rfl, h⟩ := noBox_some h
  obtain ⟨x0, h1, h2⟩ := own1 (E := groatref11_Check_E) rfl h
  exact ⟨FUEL, (h2 _ _ _ _ _ _).trans ((groatref11_Check_eq _ x0 _).trans h1)⟩
noncomputable abbrev groatref13_Check_c : Code := Tryd.f32.body.getD .skip
def groatref13_Check_E : Env := tab.env (fun i => bif Nat.beq i 7 then [1, 4, 5] else []) (fun i => bif Nat.beq i 7 then [2, 3] else []) [] [y10]
def groatref13_Check_h0 (t4 : Int) (t5 : Int) (bt1 : (Int × Int × (List (Int × Int × Int × Int × Int × Unit)) × Unit)) : State := ⟨[[.undef], [.ptr 2 y10 []], [.undef], [.undef], [.dat (.int .i64) t4 []], [.dat (.int .i64) t5 []], [.undef], [.undef], [.undef], [.undef], [.undef], [.undef], [.undef], [.undef], [.undef], [.undef], [.undef], [.undef], [.undef], [.undef], [.undef], [.undef], [.undef], [.undef], [.undef], [.undef], [.undef], [.undef], [.undef], [.undef], [.undef], [.undef], [.undef], [.undef], [.undef], [.undef], [.undef], [.undef], [.undef], [.undef], [.undef], [.undef], [.undef], [.undef], [.undef], [.undef], [.undef], [.undef], [.undef], [.undef], [.undef], [.undef], [.undef], [.undef], [.undef]], [none, none, some ⟨y10, bt1, []⟩, none, none, none, none, none, none, none, none, none, none, none, none, none, none, none, none, none, none, none, none, none, none, none, none, none, none, none, none, none, none, none, none, none, none, none, none, none, none, none, none, none, none, none, none, none, none, none, none, none, none, none, none, none]⟩
def groatref13_Check_x0_0 (t2 : Int) (t3 : Int) : State := ⟨[[.undef], [.undef], [.dat (.int .i64) t2 []], [.dat (.int .i64) t3 []], [.undef], [.undef], [.undef], [.undef], [.undef], [.undef], [.undef], [.undef], [.undef], [.undef], [.undef], [.undef], [.undef], [.undef], [.undef], [.undef], [.undef], [.undef], [.undef], [.undef], [.undef], [.undef], [.undef], [.undef], [.undef], [.undef], [.undef], [.undef], [.undef], [.undef], [.undef], [.undef], [.undef], [.undef], [.undef], [.undef], [.undef], [.undef], [.undef], [.undef], [.undef], [.undef], [.undef], [.undef], [.undef], [.undef], [.undef], [.undef], [.undef], [.undef], [.undef]], [none, none, none, none, none, none, none, none, none, none, none, none, none, none, none, none, none, none, none, none, none, none, none, none, none, none, none, none, none, none, none, none, none, none, none, none, none, none, none, none, none, none, none, none, none, none, none, none, none, none, none, none, none, none, none, none]⟩
def groatref13_Check_x0_1  : State := ⟨[[.undef], [.undef], [.undef], [.undef], [.undef], [.undef], [.undef], [.undef], [.undef], [.undef], [.undef], [.undef], [.undef], [.undef], [.undef], [.undef], [.undef], [.undef], [.undef], [.undef], [.undef], [.undef], [.undef], [.undef], [.undef], [.undef], [.undef], [.undef], [.undef], [.undef], [.undef], [.undef], [.undef], [.undef], [.undef], [.undef], [.undef], [.undef], [.undef], [.undef], [.undef], [.undef], [.undef], [.undef], [.undef], [.undef], [.undef], [.undef], [.undef], [.undef], [.undef], [.undef], [.undef], [.undef], [.undef]], [none, none, none, none, none, none, none, none, none, none, none, none, none, none, none, none, none, none, none, none, none, none, none, none, none, none, none, none, none, none, none, none, none, none, none, none, none, none, none, none, none, none, none, none, none, none, none, none, none, none, none, none, none, none, none, none]⟩
theorem groatref13_Check_t (R : Type) (kk : Nat) (s_0 : (Int × Int × (List (Int × Int × Int × Int × Int × Unit)) × Unit)) (K : List SV → Option Box → Option R) : evFn groatref13_Check_E (Tb35 R) kk Tryd.f32 groatref13_Check_c [.dat y10 s_0 []] none K =
  groatref13_Check_s0 s_0 (fun a0 a1 => K [.dat (.int .i64) a0 [], .dat (.int .i64) a1 []] none) (fun a0 a1 a2 => loopR (ev groatref13_Check_E (Tb35 R) kk (sub [1, 1, 1, 1, 0, 1, 0, 0] groatref13_Check_c)) [1, 4, 5] [2, 3] kk (groatref13_Check_h0 a0 a1 a2) (kBlock 0 (kSeq groatref13_Check_E (Tb35 R) kk (sub [1, 1, 1, 1, 1] groatref13_Check_c) (kFin groatref13_Check_E Tryd.f32.results.toList none K)))) := by kernel_rfl
theorem groatref13_Check_d0 (R : Type) (kk k : Nat) (t4 : Int) (t5 : Int) (bt1 : (Int × Int × (List (Int × Int × Int × Int × Int × Unit)) × Unit)) (K : Ex → State → Option R) : loopR (ev groatref13_Check_E (Tb35 R) kk (sub [1, 1, 1, 1, 0, 1, 0, 0] groatref13_Check_c)) [1, 4, 5] [2, 3] (k + 1) (groatref13_Check_h0 t4 t5 bt1) K =
  groatref13_Check_s1 t4 t5 bt1 (fun a0 a1 => K .ret (groatref13_Check_x0_0 a0 a1)) (fun a0 a1 a2 => loopR (ev groatref13_Check_E (Tb35 R) kk (sub [1, 1, 1, 1, 0, 1, 0, 0] groatref13_Check_c)) [1, 4, 5] [2, 3] k (groatref13_Check_h0 a0 a1 a2) K) (K (.exit 0) (groatref13_Check_x0_1)) := by kernel_rfl
theorem groatref13_Check_y0_0 (R : Type) (kk : Nat) (t2 : Int) (t3 : Int) (K : List SV → Option Box → Option R) : (kBlock 0 (kSeq groatref13_Check_E (Tb35 R) kk (sub [1, 1, 1, 1, 1] groatref13_Check_c) (kFin groatref13_Check_E Tryd.f32.results.toList none K))) .ret (groatref13_Check_x0_0 t2 t3) =
  groatref13_Check_s2 t2 t3 (fun a0 a1 => K [.dat (.int .i64) a0 [], .dat (.int .i64) a1 []] none) := by kernel_rfl
theorem groatref13_Check_y0_1 (R : Type) (kk : Nat)  (K : List SV → Option Box → Option R) : (kBlock 0 (kSeq groatref13_Check_E (Tb35 R) kk (sub [1, 1, 1, 1, 1] groatref13_Check_c) (kFin groatref13_Check_E Tryd.f32.results.toList none K))) (.exit 0) (groatref13_Check_x0_1) =
  groatref13_Check_s3 (fun a0 a1 => K [.dat (.int .i64) a0 [], .dat (.int .i64) a1 []] none) := by kernel_rfl
theorem groatref13_Check_lp0 (R : Type) (k : Nat) (t4 : Int) (t5 : Int) (bt1 : (Int × Int × (List (Int × Int × Int × Int × Int × Unit)) × Unit)) (K : Ex → State → Option R) : loopR (ev groatref13_Check_E (Tb35 R) FUEL (sub [1, 1, 1, 1, 0, 1, 0, 0] groatref13_Check_c)) [1, 4, 5] [2, 3] k (groatref13_Check_h0 t4 t5 bt1) K = (groatref13_Check_l0 k t4 t5 bt1).bind fun e => (Sum.elim (fun (we : (Int × Int)) => K .ret (groatref13_Check_x0_0 we.1 we.2)) (fun (we : Unit) => K (.exit 0) (groatref13_Check_x0_1)) e) := by
  induction k generalizing t4 t5 bt1 with
  | zero => rfl
  | succ k ih =>
    rw [groatref13_Check_d0]
    simp only [groatref13_Check_l0, groatref13_Check_s0_bind, groatref13_Check_s1_bind, groatref13_Check_s2_bind, groatref13_Check_s3_bind, ih, cond_bind, within_bind, none_bind, some_bind, sum_bind, bind_bind, Sum.elim_inl, Sum.elim_inr]
theorem groatref13_Check_eq (R : Type) (s_0 : (Int × Int × (List (Int × Int × Int × Int × Int × Unit)) × Unit)) (K : List SV → Option Box → Option R) : evFn groatref13_Check_E (Tb35 R) FUEL Tryd.f32 groatref13_Check_c [.dat y10 s_0 []] none K = (groatref13_Check s_0).bind fun r => K [.dat (.int .i64) r.1 [], .dat (.int .i64) r.2 []] none := by
  rw [groatref13_Check_t]
  simp only [groatref13_Check, groatref13_Check_s0_bind, groatref13_Check_s1_bind, groatref13_Check_s2_bind, groatref13_Check_s3_bind, groatref13_Check_lp0, groatref13_Check_y0_0, groatref13_Check_y0_1, cond_bind, within_bind, none_bind, some_bind, sum_bind, bind_bind, Sum.elim_inl, Sum.elim_inr]
def groatref13_Check_g : Pure := fun R l b K => noBox b (args1 y10 l (fun x0 => (groatref13_Check x0).bind fun r => K [.dat (.int .i64) r.1 [], .dat (.int .i64) r.2 []] none))
theorem groatref13_Check_n : groatref13_Check_g.Nat := fun R S l b F G K h => noBox_nat (args1_nat fun _ => bindr_nat fun _ => h _ _)
def Tb36 : Funs := Tb35.add 32 [y10] groatref13_Check_g
theorem Tb36_nat : Tb36.Nat := add_nat Tb35_nat groatref13_Check_n
theorem Tb36_owes : ∀ f, Owes Tryd.prog Tb36 f := add_owes (E := groatref13_Check_E) (Tab.env_ok tab_ok _ _ _ _) mixed Tb35_nat Tb35_owes (fn := Tryd.f32) (code := groatref13_Check_c) Tryd.func32 (by kernel_rfl) (by kernel_rfl) fun l b r b' h => by
  obtain ⟨rfl, h⟩ := noBox_some h
  obtain ⟨x0, h1, h2⟩ := own1 (E := groatref13_Check_E) rfl h
  exact ⟨FUEL, (h2 _ _ _ _ _ _).trans ((groatref13_Check_eq _ x0 _).trans h1)⟩
noncomputable abbrev groatref13_Right_c : Code := Tryd.f15.body.getD .skip
def groatref13_Right_E : Env := tab.env (fun _ => []) (fun _ => []) [] [y10]
theorem groatref13_Right_t (R : Type) (kk : Nat) (s_0 : (Int × Int × (List (Int × Int × Int × Int × Int × Unit)) × Unit)) (K : List SV → Option Box → Option R) : evFn groatref13_Right_E (Tb36 R) kk Tryd.f15 groatref13_Right_c [.dat y10 s_0 []] none K =
  groatref13_Right_s0 s_0 (fun a0 => K [.dat .bool a0 []] none) := by kernel_rfl
theorem groatref13_Right_eq (R : Type) (s_0 : (Int × Int × (List (Int × Int × Int × Int × Int × Unit)) × Unit)) (K : List SV → Option Box → Option R) : evFn groatref13_Right_E (Tb36 R) FUEL Tryd.f15 groatref13_Right_c [.dat y10 s_0 []] none K = (groatref13_Right s_0).bind fun r => K [.dat .bool r []] none := by
  rw [groatref13_Right_t]
  simp only [groatref13_Right, groatref13_Right_s0_bind, cond_bind, within_bind, none_bind, some_bind, sum_bind, bind_bind, Sum.elim_inl, Sum.elim_inr]
def groatref13_Right_g : Pure := fun R l b K => noBox b (args1 y10 l (fun x0 => (groatref13_Right x0).bind fun r => K [.dat .bool r []] none))
theorem groatref13_Right_n : groatref13_Right_g.Nat := fun R S l b F G K h => noBox_nat (args1_nat fun _ => bindr_nat fun _ => h _ _)
def Tb37 : Funs := Tb36.add 15 [y10] groatref13_Right_g
theorem Tb37_nat : Tb37.Nat := add_nat Tb36_nat groatref13_Right_n
theorem Tb37_owes : ∀ f, Owes Tryd.prog Tb37 f := add_owes (E := groatref13_Right_E) (Tab.env_ok tab_ok _ _ _ _) mixed Tb36_nat Tb36_owes (fn := Tryd.f15) (code := groatref13_Right_c) Tryd.func15 (by kernel_rfl) (by kernel_rfl) fun l b r b' h => by
  obtain ⟨rfl, h⟩ := noBox_some h
  obtain ⟨x0, h1, h2⟩ := own1 (E := groatref13_Right_E) rfl h
  exact ⟨FUEL, (h2 _ _ _ _ _ _).trans ((groatref13_Right_eq _ x0 _).trans h1)⟩
noncomputable abbrev groatref13_Find_c : Code := Tryd.f16.body.getD .skip
def groatref13_Find_E : Env := tab.env (fun i => bif Nat.beq i 2 then [1, 2, 5] else []) (fun i => bif Nat.beq i 2 then [4] else []) [] [y10, (.int .i64)]
def groatref13_Find_h0 (no_1 : Int) (t5 : Int) (bt2 : (Int × Int × (List (Int × Int × Int × Int × Int × Unit)) × Unit)) : State := ⟨[[.undef], [.dat (.int .i64) no_1 []], [.ptr 3 y10 []], [.undef], [.undef], [.dat (.int .i64) t5 []], [.undef], [.undef], [.undef], [.undef], [.undef], [.undef], [.undef], [.undef], [.undef], [.undef], [.undef], [.undef], [.undef], [.undef], [.undef], [.undef]], [none, none, none, some ⟨y10, bt2, []⟩, none, none, none, none, none, none, none, none, none, none, none, none, none, none, none, none, none, none, none]⟩
def groatref13_Find_x0_0 (t4 : Int) : State := ⟨[[.undef], [.undef], [.undef], [.undef], [.dat (.int .i64) t4 []], [.undef], [.undef], [.undef], [.undef], [.undef], [.undef], [.undef], [.undef], [.undef], [.undef], [.undef], [.undef], [.undef], [.undef], [.undef], [.undef], [.undef]], [none, none, none, none, none, none, none, none, none, none, none, none, none, none, none, none, none, none, none, none, none, none, none]⟩
def groatref13_Find_x0_1  : State := ⟨[[.undef], [.undef], [.undef], [.undef], [.undef], [.undef], [.undef], [.undef], [.undef], [.undef], [.undef], [.undef], [.undef], [.undef], [.undef], [.undef], [.undef], [.undef], [.undef], [.undef], [.undef], [.undef]], [none, none, none, none, none, none, none, none, none, none, none, none, none, none, none, none, none, none, none, none, none, none, none]⟩
theorem groatref13_Find_t (R : Type) (kk : Nat) (s_0 : (Int × Int × (List (Int × Int × Int × Int × Int × Unit)) × Unit)) (no_1 : Int) (K : List SV → Option Box → Option R) : evFn groatref13_Find_E (Tb37 R) kk Tryd.f16 groatref13_Find_c [.dat y10 s_0 [], .dat (.int .i64) no_1 []] none K =
  groatref13_Find_s0 s_0 no_1 (fun a0 a1 a2 => loopR (ev groatref13_Find_E (Tb37 R) kk (sub [1, 0, 1, 0, 0] groatref13_Find_c)) [1, 2, 5] [4] kk (groatref13_Find_h0 a0 a1 a2) (kBlock 0 (kSeq groatref13_Find_E (Tb37 R) kk (sub [1, 1] groatref13_Find_c) (kFin groatref13_Find_E Tryd.f16.results.toList none K)))) := by kernel_rfl
theorem groatref13_Find_d0 (R : Type) (kk k : Nat) (no_1 : Int) (t5 : Int) (bt2 : (Int × Int × (List (Int × Int × Int × Int × Int × Unit)) × Unit)) (K : Ex → State → Option R) : loopR (ev groatref13_Find_E (Tb37 R) kk (sub [1, 0, 1, 0, 0] groatref13_Find_c)) [1, 2, 5] [4] (k + 1) (groatref13_Find_h0 no_1 t5 bt2) K =
  groatref13_Find_s1 no_1 t5 bt2 (fun a0 => K .ret (groatref13_Find_x0_0 a0)) (fun a0 a1 a2 => loopR (ev groatref13_Find_E (Tb37 R) kk (sub [1, 0, 1, 0, 0] groatref13_Find_c)) [1, 2, 5] [4] k (groatref13_Find_h0 a0 a1 a2) K) (K (.exit 0) (groatref13_Find_x0_1)) := by kernel_rfl
theorem groatref13_Find_y0_0 (R : Type) (kk : Nat) (t4 : Int) (K : List SV → Option Box → Option R) : (kBlock 0 (kSeq groatref13_Find_E (Tb37 R) kk (sub [1, 1] groatref13_Find_c) (kFin groatref13_Find_E Tryd.f16.results.toList none K))) .ret (groatref13_Find_x0_0 t4) =
  groatref13_Find_s2 t4 (fun a0 => K [.dat (.int .i64) a0 []] none) := by kernel_rfl
theorem groatref13_Find_y0_1 (R : Type) (kk : Nat)  (K : List SV → Option Box → Option R) : (kBlock 0 (kSeq groatref13_Find_E (Tb37 R) kk (sub [1, 1] groatref13_Find_c) (kFin groatref13_Find_E Tryd.f16.results.toList none K))) (.exit 0) (groatref13_Find_x0_1) =
  groatref13_Find_s3 (fun a0 => K [.dat (.int .i64) a0 []] none) := by kernel_rfl
theorem groatref13_Find_lp0 (R : Type) (k : Nat) (no_1 : Int) (t5 : Int) (bt2 : (Int × Int × (List (Int × Int × Int × Int × Int × Unit)) × Unit)) (K : Ex → State → Option R) : loopR (ev groatref13_Find_E (Tb37 R) FUEL (sub [1, 0, 1, 0, 0] groatref13_Find_c)) [1, 2, 5] [4] k (groatref13_Find_h0 no_1 t5 bt2) K = (groatref13_Find_l0 k no_1 t5 bt2).bind fun e => (Sum.elim (fun (we : Int) => K .ret (groatref13_Find_x0_0 we)) (fun (we : Unit) => K (.exit 0) (groatref13_Find_x0_1)) e) := by
  induction k generalizing no_1 t5 bt2 with
  | zero => rfl
  | succ k ih =>
    rw [groatref13_Find_d0]
    simp only [groatref13_Find_l0, groatref13_Find_s0_bind, groatref13_Find_s1_bind, groatref13_Find_s2_bind, groatref13_Find_s3_bind, ih, cond_bind, within_bind, none_bind, some_bind, sum_bind, bind_bind, Sum.elim_inl, Sum.elim_inr]
theorem groatref13_Find_eq (R : Type) (s_0 : (Int × Int × (List (Int × Int × Int × Int × Int × Unit)) × Unit)) (no_1 : Int) (K : List SV → Option Box → Option R) : evFn groatref13_Find_E (Tb37 R) FUEL Tryd.f16 groatref13_Find_c [.dat y10 s_0 [], .dat (.int .i64) no_1 []] none K = (groatref13_Find s_0 no_1).bind fun r => K [.dat (.int .i64) r []] none := by
  rw [groatref13_Find_t]
  simp only [groatref13_Find, groatref13_Find_s0_bind, groatref13_Find_s1_bind, groatref13_Find_s2_bind, groatref13_Find_s3_bind, groatref13_Find_lp0, groatref13_Find_y0_0, groatref13_Find_y0_1, cond_bind, within_bind, none_bind, some_bind, sum_bind, bind_bind, Sum.elim_inl, Sum.elim_inr]
def groatref13_Find_g : Pure := fun R l b K => noBox b (args2 y10 (.int .i64) l (fun x0 x1 => (groatref13_Find x0 x1).bind fun r => K [.dat (.int .i64) r []] none))
theorem groatref13_Find_n : groatref13_Find_g.Nat := fun R S l b F G K h => noBox_nat (args2_nat fun _ _ => bindr_nat fun _ => h _ _)
def Tb38 : Funs := Tb37.add 16 [y10, (.int .i64)] groatref13_Find_g
theorem Tb38_nat : Tb38.Nat := add_nat Tb37_nat groatref13_Find_n
theorem Tb38_owes : ∀ f, Owes Tryd.prog Tb38 f := add_owes (E := groatref13_Find_E) (Tab.env_ok tab_ok _ _ _ _) mixed Tb37_nat Tb37_owes (fn := Tryd.f16) (code := groatref13_Find_c) Tryd.func16 (by kernel_rfl) (by kernel_rfl) fun l b r b' h => by
  obtain ⟨rfl, h⟩ := noBox_some h
  obtain ⟨x0, x1, h1, h2⟩ := own2 (E := groatref13_Find_E) rfl h
  exact ⟨FUEL, (h2 _ _ _ _ _ _).trans ((groatref13_Find_eq _ x0 x1 _).trans h1)⟩
noncomputable abbrev groatref04_Is_c : Code := Tryd.f48.body.getD .skip
def groatref04_Is_E : Env := tab.env (fun _ => []) (fun _ => []) [] [(.int .i64), (.int .u8)]
theorem groatref04_Is_t (R : Type) (kk : Nat) (class_0 : Int) (b_1 : Int) (K : List SV → Option Box → Option R) : evFn groatref04_Is_E (Tb38 R) kk Tryd.f48 groatref04_Is_c [.dat (.int .i64) class_0 [], .dat (.int .u8) b_1 []] none K =
  groatref04_Is_s0 class_0 b_1 (fun a0 => K [.dat .bool a0 []] none) := by kernel_rfl
theorem groatref04_Is_eq (R : Type) (class_0 : Int) (b_1 : Int) (K : List SV → Option Box → Option R) : evFn groatref04_Is_E (Tb38 R) FUEL Tryd.f48 groatref04_Is_c [.dat (.int .i64) class_0 [], .dat (.int .u8) b_1 []] none K = (groatref04_Is class_0 b_1).bind fun r => K [.dat .bool r []] none := by
  rw [groatref04_Is_t]
  simp only [groatref04_Is, groatref04_Is_s0_bind, cond_bind, within_bind, none_bind, some_bind, sum_bind, bind_bind, Sum.elim_inl, Sum.elim_inr]
def groatref04_Is_g : Pure := fun R l b K => noBox b (args2 (.int .i64) (.int .u8) l (fun x0 x1 => (groatref04_Is x0 x1).bind fun r => K [.dat .bool r []] none))
theorem groatref04_Is_n : groatref04_Is_g.Nat := fun R S l b F G K h => noBox_nat (args2_nat fun _ _ => bindr_nat fun _ => h _ _)
def Tb39 : Funs := Tb38.add 48 [(.int .i64), (.int .u8)] groatref04_Is_g
theorem Tb39_nat : Tb39.Nat := add_nat Tb38_nat groatref04_Is_n
theorem Tb39_owes : ∀ f, Owes Tryd.prog Tb39 f := add_owes (E := groatref04_Is_E) (Tab.env_ok tab_ok _ _ _ _) mixed Tb38_nat Tb38_owes (fn := Tryd.f48) (code := groatref04_Is_c) Tryd.func48 (by kernel_rfl) (by kernel_rfl) fun l b r b' h => by
  obtain ⟨rfl, h⟩ := noBox_some h
  obtain ⟨x0, x1, h1, h2⟩ := own2 (E := groatref04_Is_E) rfl h
  exact ⟨FUEL, (h2 _ _ _ _ _ _).trans ((groatref04_Is_eq _ x0 x1 _).trans h1)⟩
noncomputable abbrev groatref04_First_c : Code := Tryd.f34.body.getD .skip
def groatref04_First_E : Env := tab.env (fun i => bif Nat.beq i 2 then [0, 1, 5] else []) (fun i => bif Nat.beq i 2 then [4] else []) [] [(.int .i64), .str]
def groatref04_First_h0 (class_0 : Int) (s_1 : ByteArray) (t5 : Int) : State := ⟨[[.dat (.int .i64) class_0 []], [.dat .str s_1 []], [.undef], [.undef], [.undef], [.dat (.int .i64) t5 []], [.undef], [.undef], [.undef], [.undef], [.undef], [.undef], [.undef], [.undef], [.undef], [.undef], [.undef], [.undef], [.undef]], [none, none, none, none, none, none, none, none, none, none, none, none, none, none, none, none, none, none, none, none]⟩
def groatref04_First_x0_0 (t4 : Int) : State := ⟨[[.undef], [.undef], [.undef], [.undef], [.dat (.int .i64) t4 []], [.undef], [.undef], [.undef], [.undef], [.undef], [.undef], [.undef], [.undef], [.undef], [.undef], [.undef], [.undef], [.undef], [.undef]], [none, none, none, none, none, none, none, none, none, none, none, none, none, none, none, none, none, none, none, none]⟩
def groatref04_First_x0_1  : State := ⟨[[.undef], [.undef], [.undef], [.undef], [.undef], [.undef], [.undef], [.undef], [.undef], [.undef], [.undef], [.undef], [.undef], [.undef], [.undef], [.undef], [.undef], [.undef], [.undef]], [none, none, none, none, none, none, none, none, none, none, none, none, none, none, none, none, none, none, none, none]⟩
theorem groatref04_First_t (R : Type) (kk : Nat) (class_0 : Int) (s_1 : ByteArray) (K : List SV → Option Box → Option R) : evFn groatref04_First_E (Tb39 R) kk Tryd.f34 groatref04_First_c [.dat (.int .i64) class_0 [], .dat .str s_1 []] none K =
  groatref04_First_s0 class_0 s_1 (fun a0 a1 a2 => loopR (ev groatref04_First_E (Tb39 R) kk (sub [1, 0, 1, 0, 0] groatref04_First_c)) [0, 1, 5] [4] kk (groatref04_First_h0 a0 a1 a2) (kBlock 0 (kSeq groatref04_First_E (Tb39 R) kk (sub [1, 1] groatref04_First_c) (kFin groatref04_First_E Tryd.f34.results.toList none K)))) := by kernel_rfl
theorem groatref04_First_d0 (R : Type) (kk k : Nat) (class_0 : Int) (s_1 : ByteArray) (t5 : Int) (K : Ex → State → Option R) : loopR (ev groatref04_First_E (Tb39 R) kk (sub [1, 0, 1, 0, 0] groatref04_First_c)) [0, 1, 5] [4] (k + 1) (groatref04_First_h0 class_0 s_1 t5) K =
  groatref04_First_s1 class_0 s_1 t5 (fun a0 => K .ret (groatref04_First_x0_0 a0)) (fun a0 a1 a2 => loopR (ev groatref04_First_E (Tb39 R) kk (sub [1, 0, 1, 0, 0] groatref04_First_c)) [0, 1, 5] [4] k (groatref04_First_h0 a0 a1 a2) K) (K (.exit 0) (groatref04_First_x0_1)) := by kernel_rfl
theorem groatref04_First_y0_0 (R : Type) (kk : Nat) (t4 : Int) (K : List SV → Option Box → Option R) : (kBlock 0 (kSeq groatref04_First_E (Tb39 R) kk (sub [1, 1] groatref04_First_c) (kFin groatref04_First_E Tryd.f34.results.toList none K))) .ret (groatref04_First_x0_0 t4) =
  groatref04_First_s2 t4 (fun a0 => K [.dat (.int .i64) a0 []] none) := by kernel_rfl
theorem groatref04_First_y0_1 (R : Type) (kk : Nat)  (K : List SV → Option Box → Option R) : (kBlock 0 (kSeq groatref04_First_E (Tb39 R) kk (sub [1, 1] groatref04_First_c) (kFin groatref04_First_E Tryd.f34.results.toList none K))) (.exit 0) (groatref04_First_x0_1) =
  groatref04_First_s3 (fun a0 => K [.dat (.int .i64) a0 []] none) := by kernel_rfl
theorem groatref04_First_lp0 (R : Type) (k : Nat) (class_0 : Int) (s_1 : ByteArray) (t5 : Int) (K : Ex → State → Option R) : loopR (ev groatref04_First_E (Tb39 R) FUEL (sub [1, 0, 1, 0, 0] groatref04_First_c)) [0, 1, 5] [4] k (groatref04_First_h0 class_0 s_1 t5) K = (groatref04_First_l0 k class_0 s_1 t5).bind fun e => (Sum.elim (fun (we : Int) => K .ret (groatref04_First_x0_0 we)) (fun (we : Unit) => K (.exit 0) (groatref04_First_x0_1)) e) := by
  induction k generalizing class_0 s_1 t5 with
  | zero => rfl
  | succ k ih =>
    rw [groatref04_First_d0]
    simp only [groatref04_First_l0, groatref04_First_s0_bind, groatref04_First_s1_bind, groatref04_First_s2_bind, groatref04_First_s3_bind, ih, cond_bind, within_bind, none_bind, some_bind, sum_bind, bind_bind, Sum.elim_inl, Sum.elim_inr]
theorem groatref04_First_eq (R : Type) (class_0 : Int) (s_1 : ByteArray) (K : List SV → Option Box → Option R) : evFn groatref04_First_E (Tb39 R) FUEL Tryd.f34 groatref04_First_c [.dat (.int .i64) class_0 [], .dat .str s_1 []] none K = (groatref04_First class_0 s_1).bind fun r => K [.dat (.int .i64) r []] none := by
  rw [groatref04_First_t]
  simp only [groatref04_First, groatref04_First_s0_bind, groatref04_First_s1_bind, groatref04_First_s2_bind, groatref04_First_s3_bind, groatref04_First_lp0, groatref04_First_y0_0, groatref04_First_y0_1, cond_bind, within_bind, none_bind, some_bind, sum_bind, bind_bind, Sum.elim_inl, Sum.elim_inr]
def groatref04_First_g : Pure := fun R l b K => noBox b (args2 (.int .i64) .str l (fun x0 x1 => (groatref04_First x0 x1).bind fun r => K [.dat (.int .i64) r []] none))
theorem groatref04_First_n : groatref04_First_g.Nat := fun R S l b F G K h => noBox_nat (args2_nat fun _ _ => bindr_nat fun _ => h _ _)
def Tb40 : Funs := Tb39.add 34 [(.int .i64), .str] groatref04_First_g
theorem Tb40_nat : Tb40.Nat := add_nat Tb39_nat groatref04_First_n
theorem Tb40_owes : ∀ f, Owes Tryd.prog Tb40 f := add_owes (E := groatref04_First_E) (Tab.env_ok tab_ok _ _ _ _) mixed Tb39_nat Tb39_owes (fn := Tryd.f34) (code := groatref04_First_c) Tryd.func34 (by kernel_rfl) (by kernel_rfl) fun l b r b' h => by
  obtain ⟨rfl, h⟩ := noBox_some h
  obtain ⟨x0, x1, h1, h2⟩ := own2 (E := groatref04_First_E) rfl h
  exact ⟨FUEL, (h2 _ _ _ _ _ _).trans ((groatref04_First_eq _ x0 x1 _).trans h1)⟩
noncomputable abbrev groatref08_First_c : Code := Tryd.f73.body.getD .skip
def groatref08_First_E : Env := tab.env (fun _ => []) (fun _ => []) [] [(.int .u8)]
theorem groatref08_First_t (R : Type) (kk : Nat) (b_0 : Int) (K : List SV → Option Box → Option R) : evFn groatref08_First_E (Tb40 R) kk Tryd.f73 groatref08_First_c [.dat (.int .u8) b_0 []] none K =
  groatref08_First_s0 b_0 (fun a0 => K [.dat (.int .i64) a0 []] none) := by kernel_rfl
theorem groatref08_First_eq (R : Type) (b_0 : Int) (K : List SV → Option Box → Option R) : evFn groatref08_First_E (Tb40 R) FUEL Tryd.f73 groatref08_First_c [.dat (.int .u8) b_0 []] none K = (groatref08_First b_0).bind fun r => K [.dat (.int .i64) r []] none := by
  rw [groatref08_First_t]
  simp only [groatref08_First, groatref08_First_s0_bind, cond_bind, within_bind, none_bind, some_bind, sum_bind, bind_bind, Sum.elim_inl, Sum.elim_inr]
def groatref08_First_g : Pure := fun R l b K => noBox b (args1 (.int .u8) l (fun x0 => (groatref08_First x0).bind fun r => K [.dat (.int .i64) r []] none))
theorem groatref08_First_n : groatref08_First_g.Nat := fun R S l b F G K h => noBox_nat (args1_nat fun _ => bindr_nat fun _ => h _ _)
def Tb41 : Funs := Tb40.add 73 [(.int .u8)] groatref08_First_g
theorem Tb41_nat : Tb41.Nat := add_nat Tb40_nat groatref08_First_n
theorem Tb41_owes : ∀ f, Owes Tryd.prog Tb41 f := add_owes (E := groatref08_First_E) (Tab.env_ok tab_ok _ _ _ _) mixed Tb40_nat Tb40_owes (fn := Tryd.f73) (code := groatref08_First_c) Tryd.func73 (by kernel_rfl) (by kernel_rfl) fun l b r b' h => by
  obtain ⟨rfl, h⟩ := noBox_some h
  obtain ⟨x0, h1, h2⟩ := own1 (E := groatref08_First_E) rfl h
  exact ⟨FUEL, (h2 _ _ _ _ _ _).trans ((groatref08_First_eq _ x0 _).trans h1)⟩
noncomputable abbrev groatref08_Get_c : Code := Tryd.f49.body.getD .skip
def groatref08_Get_E : Env := tab.env (fun _ => []) (fun _ => []) [] [.str, (.int .i64)]
theorem groatref08_Get_t (R : Type) (kk : Nat) (b_0 : ByteArray) (at_1 : Int) (K : List SV → Option Box → Option R) : evFn groatref08_Get_E (Tb41 R) kk Tryd.f49 groatref08_Get_c [.dat .str b_0 [], .dat (.int .i64) at_1 []] none K =
  groatref08_Get_s0 b_0 at_1 (fun a0 a1 a2 => K [.dat (.int .i64) a0 [], .dat (.int .i64) a1 [], .dat (.int .i64) a2 []] none) := by kernel_rfl
theorem groatref08_Get_eq (R : Type) (b_0 : ByteArray) (at_1 : Int) (K : List SV → Option Box → Option R) : evFn groatref08_Get_E (Tb41 R) FUEL Tryd.f49 groatref08_Get_c [.dat .str b_0 [], .dat (.int .i64) at_1 []] none K = (groatref08_Get b_0 at_1).bind fun r => K [.dat (.int .i64) r.1 [], .dat (.int .i64) r.2.1 [], .dat (.int .i64) r.2.2 []] none := by
  rw [groatref08_Get_t]
  simp only [groatref08_Get, groatref08_Get_s0_bind, cond_bind, within_bind, none_bind, some_bind, sum_bind, bind_bind, Sum.elim_inl, Sum.elim_inr]
def groatref08_Get_g : Pure := fun R l b K => noBox b (args2 .str (.int .i64) l (fun x0 x1 => (groatref08_Get x0 x1).bind fun r => K [.dat (.int .i64) r.1 [], .dat (.int .i64) r.2.1 [], .dat (.int .i64) r.2.2 []] none))
theorem groatref08_Get_n : groatref08_Get_g.Nat := fun R S l b F G K h => noBox_nat (args2_nat fun _ _ => bindr_nat fun _ => h _ _)
def Tb42 : Funs := Tb41.add 49 [.str, (.int .i64)] groatref08_Get_g
theorem Tb42_nat : Tb42.Nat := add_nat Tb41_nat groatref08_Get_n
theorem Tb42_owes : ∀ f, Owes Tryd.prog Tb42 f := add_owes (E := groatref08_Get_E) (Tab.env_ok tab_ok _ _ _ _) mixed Tb41_nat Tb41_owes (fn := Tryd.f49) (code := groatref08_Get_c) Tryd.func49 (by kernel_rfl) (by kernel_rfl) fun l b r b' h => by
  obtain ⟨rfl, h⟩ := noBox_some h
  obtain ⟨x0, x1, h1, h2⟩ := own2 (E := groatref08_Get_E) rfl h
  exact ⟨FUEL, (h2 _ _ _ _ _ _).trans ((groatref08_Get_eq _ x0 x1 _).trans h1)⟩
noncomputable abbrev groatref09_Get_c : Code := Tryd.f50.body.getD .skip
def groatref09_Get_E : Env := tab.env (fun _ => []) (fun _ => []) [] [.str, (.int .i64)]
theorem groatref09_Get_t (R : Type) (kk : Nat) (b_0 : ByteArray) (at_1 : Int) (K : List SV → Option Box → Option R) : evFn groatref09_Get_E (Tb42 R) kk Tryd.f50 groatref09_Get_c [.dat .str b_0 [], .dat (.int .i64) at_1 []] none K =
  groatref09_Get_s0 b_0 at_1 (fun a0 a1 a2 => K [.dat (.int .i64) a0 [], .dat (.int .i64) a1 [], .dat (.int .i64) a2 []] none) := by kernel_rfl
theorem groatref09_Get_eq (R : Type) (b_0 : ByteArray) (at_1 : Int) (K : List SV → Option Box → Option R) : evFn groatref09_Get_E (Tb42 R) FUEL Tryd.f50 groatref09_Get_c [.dat .str b_0 [], .dat (.int .i64) at_1 []] none K = (groatref09_Get b_0 at_1).bind fun r => K [.dat (.int .i64) r.1 [], .dat (.int .i64) r.2.1 [], .dat (.int .i64) r.2.2 []] none := by
  rw [groatref09_Get_t]
  simp only [groatref09_Get, groatref09_Get_s0_bind, cond_bind, within_bind, none_bind, some_bind, sum_bind, bind_bind, Sum.elim_inl, Sum.elim_inr]
def groatref09_Get_g : Pure := fun R l b K => noBox b (args2 .str (.int .i64) l (fun x0 x1 => (groatref09_Get x0 x1).bind fun r => K [.dat (.int .i64) r.1 [], .dat (.int .i64) r.2.1 [], .dat (.int .i64) r.2.2 []] none))
theorem groatref09_Get_n : groatref09_Get_g.Nat := fun R S l b F G K h => noBox_nat (args2_nat fun _ _ => bindr_nat fun _ => h _ _)
def Tb43 : Funs := Tb42.add 50 [.str, (.int .i64)] groatref09_Get_g
theorem Tb43_nat : Tb43.Nat := add_nat Tb42_nat groatref09_Get_n
theorem Tb43_owes : ∀ f, Owes Tryd.prog Tb43 f := add_owes (E := groatref09_Get_E) (Tab.env_ok tab_ok _ _ _ _) mixed Tb42_nat Tb42_owes (fn := Tryd.f50) (code := groatref09_Get_c) Tryd.func50 (by kernel_rfl) (by kernel_rfl) fun l b r b' h => by
  obtain ⟨rfl, h⟩ := noBox_some h
  obtain ⟨x0, x1, h1, h2⟩ := own2 (E := groatref09_Get_E) rfl h
  exact ⟨FUEL, (h2 _ _ _ _ _ _).trans ((groatref09_Get_eq _ x0 x1 _).trans h1)⟩
noncomputable abbrev groatref10_has_c : Code := Tryd.f51.body.getD .skip
def groatref10_has_E : Env := tab.env (fun i => bif Nat.beq i 2 then [0, 1, 2, 7] else []) (fun i => bif Nat.beq i 2 then [6] else []) [] [(.sl 92 (.pair (.int .i64) (.pair .str .unit))), (.int .i64), (.int .i64)]
def groatref10_has_h0 (l_0 : (List (Int × ByteArray × Unit))) (n_1 : Int) (tag_2 : Int) (t7 : Int) : State := ⟨[[.dat (.sl 92 (.pair (.int .i64) (.pair .str .unit))) l_0 []], [.dat (.int .i64) n_1 []], [.dat (.int .i64) tag_2 []], [.undef], [.undef], [.undef], [.undef], [.dat (.int .i64) t7 []], [.undef], [.undef], [.undef], [.undef], [.undef], [.undef], [.undef], [.undef], [.undef], [.undef], [.undef], [.undef]], [none, none, none, none, none, none, none, none, none, none, none, none, none, none, none, none, none, none, none, none, none]⟩
def groatref10_has_x0_0 (t6 : Bool) : State := ⟨[[.undef], [.undef], [.undef], [.undef], [.undef], [.undef], [.dat .bool t6 []], [.undef], [.undef], [.undef], [.undef], [.undef], [.undef], [.undef], [.undef], [.undef], [.undef], [.undef], [.undef], [.undef]], [none, none, none, none, none, none, none, none, none, none, none, none, none, none, none, none, none, none, none, none, none]⟩
def groatref10_has_x0_1  : State := ⟨[[.undef], [.undef], [.undef], [.undef], [.undef], [.undef], [.undef], [.undef], [.undef], [.undef], [.undef], [.undef], [.undef], [.undef], [.undef], [.undef], [.undef], [.undef], [.undef], [.undef]], [none, none, none, none, none, none, none, none, none, none, none, none, none, none, none, none, none, none, none, none, none]⟩
theorem groatref10_has_t (R : Type) (kk : Nat) (l_0 : (List (Int × ByteArray × Unit))) (n_1 : Int) (tag_2 : Int) (K : List SV → Option Box → Option R) : evFn groatref10_has_E (Tb43 R) kk Tryd.f51 groatref10_has_c [.dat (.sl 92 (.pair (.int .i64) (.pair .str .unit))) l_0 [], .dat (.int .i64) n_1 [], .dat (.int .i64) tag_2 []] none K =
  groatref10_has_s0 l_0 n_1 tag_2 (fun a0 a1 a2 a3 => loopR (ev groatref10_has_E (Tb43 R) kk (sub [1, 0, 1, 0, 0] groatref10_has_c)) [0, 1, 2, 7] [6] kk (groatref10_has_h0 a0 a1 a2 a3) (kBlock 0 (kSeq groatref10_has_E (Tb43 R) kk (sub [1, 1] groatref10_has_c) (kFin groatref10_has_E Tryd.f51.results.toList none K)))) := by kernel_rfl
theorem groatref10_has_d0 (R : Type) (kk k : Nat) (l_0 : (List (Int × ByteArray × Unit))) (n_1 : Int) (tag_2 : Int) (t7 : Int) (K : Ex → State → Option R) : loopR (ev groatref10_has_E (Tb43 R) kk (sub [1, 0, 1, 0, 0] groatref10_has_c)) [0, 1, 2, 7] [6] (k + 1) (groatref10_has_h0 l_0 n_1 tag_2 t7) K =
  groatref10_has_s1 l_0 n_1 tag_2 t7 (fun a0 => K .ret (groatref10_has_x0_0 a0)) (fun a0 a1 a2 a3 => loopR (ev groatref10_has_E (Tb43 R) kk (sub [1, 0, 1, 0, 0] groatref10_has_c)) [0, 1, 2, 7] [6] k (groatref10_has_h0 a0 a1 a2 a3) K) (K (.exit 0) (groatref10_has_x0_1)) := by kernel_rfl
theorem groatref10_has_y0_0 (R : Type) (kk : Nat) (t6 : Bool) (K : List SV → Option Box → Option R) : (kBlock 0 (kSeq groatref10_has_E (Tb43 R) kk (sub [1, 1] groatref10_has_c) (kFin groatref10_has_E Tryd.f51.results.toList none K))) .ret (groatref10_has_x0_0 t6) =
  groatref10_has_s2 t6 (fun a0 => K [.dat .bool a0 []] none) := by kernel_rfl
theorem groatref10_has_y0_1 (R : Type) (kk : Nat)  (K : List SV → Option Box → Option R) : (kBlock 0 (kSeq groatref10_has_E (Tb43 R) kk (sub [1, 1] groatref10_has_c) (kFin groatref10_has_E Tryd.f51.results.toList none K))) (.exit 0) (groatref10_has_x0_1) =
  groatref10_has_s3 (fun a0 => K [.dat .bool a0 []] none) := by kernel_rfl
theorem groatref10_has_lp0 (R : Type) (k : Nat) (l_0 : (List (Int × ByteArray × Unit))) (n_1 : Int) (tag_2 : Int) (t7 : Int) (K : Ex → State → Option R) : loopR (ev groatref10_has_E (Tb43 R) FUEL (sub [1, 0, 1, 0, 0] groatref10_has_c)) [0, 1, 2, 7] [6] k (groatref10_has_h0 l_0 n_1 tag_2 t7) K = (groatref10_has_l0 k l_0 n_1 tag_2 t7).bind fun e => (Sum.elim (fun (we : Bool) => K .ret (groatref10_has_x0_0 we)) (fun (we : Unit) => K (.exit 0) (groatref10_has_x0_1)) e) := by
  induction k generalizing l_0 n_1 tag_2 t7 with
  | zero => rfl
  | succ k ih =>
    rw [groatref10_has_d0]
    simp only [groatref10_has_l0, groatref10_has_s0_bind, groatref10_has_s1_bind, groatref10_has_s2_bind, groatref10_has_s3_bind, ih, cond_bind, within_bind, none_bind, some_bind, sum_bind, bind_bind, Sum.elim_inl, Sum.elim_inr]
theorem groatref10_has_eq (R : Type) (l_0 : (List (Int × ByteArray × Unit))) (n_1 : Int) (tag_2 : Int) (K : List SV → Option Box → Option R) : evFn groatref10_has_E (Tb43 R) FUEL Tryd.f51 groatref10_has_c [.dat (.sl 92 (.pair (.int .i64) (.pair .str .unit))) l_0 [], .dat (.int .i64) n_1 [], .dat (.int .i64) tag_2 []] none K = (groatref10_has l_0 n_1 tag_2).bind fun r => K [.dat .bool r []] none := by
  rw [groatref10_has_t]
  simp only [groatref10_has, groatref10_has_s0_bind, groatref10_has_s1_bind, groatref10_has_s2_bind, groatref10_has_s3_bind, groatref10_has_lp0, groatref10_has_y0_0, groatref10_has_y0_1, cond_bind, within_bind, none_bind, some_bind, sum_bind, bind_bind, Sum.elim_inl, Sum.elim_inr]
def groatref10_has_g : Pure := fun R l b K => noBox b (args3 (.sl 92 (.pair (.int .i64) (.pair .str .unit))) (.int .i64) (.int .i64) l (fun x0 x1 x2 => (groatref10_has x0 x1 x2).bind fun r => K [.dat .bool r []] none))
theorem groatref10_has_n : groatref10_has_g.Nat := fun R S l b F G K h => noBox_nat (args3_nat fun _ _ _ => bindr_nat fun _ => h _ _)
def Tb44 : Funs := Tb43.add 51 [(.sl 92 (.pair (.int .i64) (.pair .str .unit))), (.int .i64), (.int .i64)] groatref10_has_g
theorem Tb44_nat : Tb44.Nat := add_nat Tb43_nat groatref10_has_n
theorem Tb44_owes : ∀ f, Owes Tryd.prog Tb44 f := add_owes (E := groatref10_has_E) (Tab.env_ok tab_ok _ _ _ _) mixed Tb43_nat Tb43_owes (fn := Tryd.f51) (code := groatref10_has_c) Tryd.func51 (by kernel_rfl) (by kernel_rfl) fun l b r b' h => by
  obtain ⟨rfl, h⟩ := noBox_some h
  obtain ⟨x0, x1, x2, h1, h2⟩ := own3 (E := groatref10_has_E) rfl h
  exact ⟨FUEL, (h2 _ _ _ _ _ _).trans ((groatref10_has_eq _ x0 x1 x2 _).trans h1)⟩
noncomputable abbrev groatref10_Get_c : Code := Tryd.f35.body.getD .skip
def groatref10_Get_E : Env := tab.env (fun i => bif Nat.beq i 3 then [0, 5, 6] else []) (fun i => bif Nat.beq i 3 then [2, 3, 4, 5] else []) [] [.str]
def groatref10_Get_h0 (b_0 : ByteArray) (t5 : (List (Int × ByteArray × Unit))) (t6 : Int) : State := ⟨[[.dat .str b_0 []], [.undef], [.undef], [.undef], [.undef], [.dat (.sl 92 (.pair (.int .i64) (.pair .str .unit))) t5 [[]]], [.dat (.int .i64) t6 []], [.undef], [.undef], [.undef], [.undef], [.undef], [.undef], [.undef], [.undef], [.undef], [.undef], [.undef], [.undef], [.undef], [.undef], [.undef], [.undef], [.undef], [.undef], [.undef], [.undef], [.undef], [.undef], [.undef], [.undef], [.undef], [.undef], [.undef], [.undef], [.undef], [.undef], [.undef], [.undef], [.undef], [.undef], [.undef], [.undef], [.undef], [.undef], [.undef], [.undef], [.undef], [.undef], [.undef], [.undef], [.undef], [.undef], [.undef], [.undef], [.undef], [.undef], [.undef], [.undef], [.undef], [.undef], [.undef], [.undef], [.undef], [.undef], [.undef], [.undef], [.undef]], [none, none, none, none, none, none, none, none, none, none, none, none, none, none, none, none, none, none, none, none, none, none, none, none, none, none, none, none, none, none, none, none, none, none, none, none, none, none, none, none, none, none, none, none, none, none, none, none, none, none, none, none, none, none, none, none, none, none, none, none, none, none, none, none, none, none, none, none, none]⟩
def groatref10_Get_x0_0 (t2 : (List (Int × ByteArray × Unit))) (t3 : Int) (t4 : Int) (t5 : (List (Int × ByteArray × Unit))) : State := ⟨[[.undef], [.undef], [.dat (.sl 92 (.pair (.int .i64) (.pair .str .unit))) t2 [[]]], [.dat (.int .i64) t3 []], [.dat (.int .i64) t4 []], [.dat (.sl 92 (.pair (.int .i64) (.pair .str .unit))) t5 [[]]], [.undef], [.undef], [.undef], [.undef], [.undef], [.undef], [.undef], [.undef], [.undef], [.undef], [.undef], [.undef], [.undef], [.undef], [.undef], [.undef], [.undef], [.undef], [.undef], [.undef], [.undef], [.undef], [.undef], [.undef], [.undef], [.undef], [.undef], [.undef], [.undef], [.undef], [.undef], [.undef], [.undef], [.undef], [.undef], [.undef], [.undef], [.undef], [.undef], [.undef], [.undef], [.undef], [.undef], [.undef], [.undef], [.undef], [.undef], [.undef], [.undef], [.undef], [.undef], [.undef], [.undef], [.undef], [.undef], [.undef], [.undef], [.undef], [.undef], [.undef], [.undef], [.undef]], [none, none, none, none, none, none, none, none, none, none, none, none, none, none, none, none, none, none, none, none, none, none, none, none, none, none, none, none, none, none, none, none, none, none, none, none, none, none, none, none, none, none, none, none, none, none, none, none, none, none, none, none, none, none, none, none, none, none, none, none, none, none, none, none, none, none, none, none, none]⟩
def groatref10_Get_x0_1 (t5 : (List (Int × ByteArray × Unit))) : State := ⟨[[.undef], [.undef], [.undef], [.undef], [.undef], [.dat (.sl 92 (.pair (.int .i64) (.pair .str .unit))) t5 [[]]], [.undef], [.undef], [.undef], [.undef], [.undef], [.undef], [.undef], [.undef], [.undef], [.undef], [.undef], [.undef], [.undef], [.undef], [.undef], [.undef], [.undef], [.undef], [.undef], [.undef], [.undef], [.undef], [.undef], [.undef], [.undef], [.undef], [.undef], [.undef], [.undef], [.undef], [.undef], [.undef], [.undef], [.undef], [.undef], [.undef], [.undef], [.undef], [.undef], [.undef], [.undef], [.undef], [.undef], [.undef], [.undef], [.undef], [.undef], [.undef], [.undef], [.undef], [.undef], [.undef], [.undef], [.undef], [.undef], [.undef], [.undef], [.undef], [.undef], [.undef], [.undef], [.undef]], [none, none, none, none, none, none, none, none, none, none, none, none, none, none, none, none, none, none, none, none, none, none, none, none, none, none, none, none, none, none, none, none, none, none, none, none, none, none, none, none, none, none, none, none, none, none, none, none, none, none, none, none, none, none, none, none, none, none, none, none, none, none, none, none, none, none, none, none, none]⟩
theorem groatref10_Get_t (R : Type) (kk : Nat) (b_0 : ByteArray) (K : List SV → Option Box → Option R) : evFn groatref10_Get_E (Tb44 R) kk Tryd.f35 groatref10_Get_c [.dat .str b_0 []] none K =
  groatref10_Get_s0 b_0 (fun a0 a1 a2 => loopR (ev groatref10_Get_E (Tb44 R) kk (sub [1, 1, 1, 0, 0, 0] groatref10_Get_c)) [0, 5, 6] [2, 3, 4, 5] kk (groatref10_Get_h0 a0 a1 a2) (kBlock 0 (kSeq groatref10_Get_E (Tb44 R) kk (sub [1, 1, 1, 1] groatref10_Get_c) (kFin groatref10_Get_E Tryd.f35.results.toList none K)))) := by kernel_rfl
theorem groatref10_Get_d0 (R : Type) (kk k : Nat) (b_0 : ByteArray) (t5 : (List (Int × ByteArray × Unit))) (t6 : Int) (K : Ex → State → Option R) : loopR (ev groatref10_Get_E (Tb44 R) kk (sub [1, 1, 1, 0, 0, 0] groatref10_Get_c)) [0, 5, 6] [2, 3, 4, 5] (k + 1) (groatref10_Get_h0 b_0 t5 t6) K =
  groatref10_Get_s1 b_0 t5 t6 (fun a0 a1 a2 a3 => K .ret (groatref10_Get_x0_0 a0 a1 a2 a3)) (fun a0 a1 a2 => loopR (ev groatref10_Get_E (Tb44 R) kk (sub [1, 1, 1, 0, 0, 0] groatref10_Get_c)) [0, 5, 6] [2, 3, 4, 5] k (groatref10_Get_h0 a0 a1 a2) K) (fun a0 => K (.exit 0) (groatref10_Get_x0_1 a0)) := by kernel_rfl
theorem groatref10_Get_y0_0 (R : Type) (kk : Nat) (t2 : (List (Int × ByteArray × Unit))) (t3 : Int) (t4 : Int) (t5 : (List (Int × ByteArray × Unit))) (K : List SV → Option Box → Option R) : (kBlock 0 (kSeq groatref10_Get_E (Tb44 R) kk (sub [1, 1, 1, 1] groatref10_Get_c) (kFin groatref10_Get_E Tryd.f35.results.toList none K))) .ret (groatref10_Get_x0_0 t2 t3 t4 t5) =
  groatref10_Get_s2 t2 t3 t4 t5 (fun a0 a1 a2 => K [.dat (.sl 92 (.pair (.int .i64) (.pair .str .unit))) a0 [[]], .dat (.int .i64) a1 [], .dat (.int .i64) a2 []] none) := by kernel_rfl
theorem groatref10_Get_y0_1 (R : Type) (kk : Nat) (t5 : (List (Int × ByteArray × Unit))) (K : List SV → Option Box → Option R) : (kBlock 0 (kSeq groatref10_Get_E (Tb44 R) kk (sub [1, 1, 1, 1] groatref10_Get_c) (kFin groatref10_Get_E Tryd.f35.results.toList none K))) (.exit 0) (groatref10_Get_x0_1 t5) =
  groatref10_Get_s3 t5 (fun a0 a1 a2 => K [.dat (.sl 92 (.pair (.int .i64) (.pair .str .unit))) a0 [], .dat (.int .i64) a1 [], .dat (.int .i64) a2 []] none) := by kernel_rfl
theorem groatref10_Get_lp0 (R : Type) (k : Nat) (b_0 : ByteArray) (t5 : (List (Int × ByteArray × Unit))) (t6 : Int) (K : Ex → State → Option R) : loopR (ev groatref10_Get_E (Tb44 R) FUEL (sub [1, 1, 1, 0, 0, 0] groatref10_Get_c)) [0, 5, 6] [2, 3, 4, 5] k (groatref10_Get_h0 b_0 t5 t6) K = (groatref10_Get_l0 k b_0 t5 t6).bind fun e => (Sum.elim (fun (we : ((List (Int × ByteArray × Unit)) × Int × Int × (List (Int × ByteArray × Unit)))) => K .ret (groatref10_Get_x0_0 we.1 we.2.1 we.2.2.1 we.2.2.2)) (fun (we : (List (Int × ByteArray × Unit))) => K (.exit 0) (groatref10_Get_x0_1 we)) e) := by
  induction k generalizing b_0 t5 t6 with
  | zero => rfl
  | succ k ih =>
    rw [groatref10_Get_d0]
    simp only [groatref10_Get_l0, groatref10_Get_s0_bind, groatref10_Get_s1_bind, groatref10_Get_s2_bind, groatref10_Get_s3_bind, ih, cond_bind, within_bind, none_bind, some_bind, sum_bind, bind_bind, Sum.elim_inl, Sum.elim_inr]
theorem groatref10_Get_eq (R : Type) (b_0 : ByteArray) (K : List SV → Option Box → Option R) : evFn groatref10_Get_E (Tb44 R) FUEL Tryd.f35 groatref10_Get_c [.dat .str b_0 []] none K = (groatref10_Get b_0).bind fun r => (Sum.elim (fun (wr : ((List (Int × ByteArray × Unit)) × Int × Int)) => K [.dat (.sl 92 (.pair (.int .i64) (.pair .str .unit))) wr.1 [[]], .dat (.int .i64) wr.2.1 [], .dat (.int .i64) wr.2.2 []] none) (fun (wr : ((List (Int × ByteArray × Unit)) × Int × Int)) => K [.dat (.sl 92 (.pair (.int .i64) (.pair .str .unit))) wr.1 [], .dat (.int .i64) wr.2.1 [], .dat (.int .i64) wr.2.2 []] none) r) := by
  rw [groatref10_Get_t]
  simp only [groatref10_Get, groatref10_Get_s0_bind, groatref10_Get_s1_bind, groatref10_Get_s2_bind, groatref10_Get_s3_bind, groatref10_Get_lp0, groatref10_Get_y0_0, groatref10_Get_y0_1, cond_bind, within_bind, none_bind, some_bind, sum_bind, bind_bind, Sum.elim_inl, Sum.elim_inr]
def groatref10_Get_g : Pure := fun R l b K => noBox b (args1 .str l (fun x0 => (groatref10_Get x0).bind fun r => (Sum.elim (fun (wr : ((List (Int × ByteArray × Unit)) × Int × Int)) => K [.dat (.sl 92 (.pair (.int .i64) (.pair .str .unit))) wr.1 [[]], .dat (.int .i64) wr.2.1 [], .dat (.int .i64) wr.2.2 []] none) (fun (wr : ((List (Int × ByteArray × Unit)) × Int × Int)) => K [.dat (.sl 92 (.pair (.int .i64) (.pair .str .unit))) wr.1 [], .dat (.int .i64) wr.2.1 [], .dat (.int .i64) wr.2.2 []] none) r)))
theorem groatref10_Get_n : groatref10_Get_g.Nat := fun R S l b F G K h => noBox_nat (args1_nat fun _ => bindr_nat fun _ => sum_nat (fun _ => h _ _) (fun _ => h _ _))
def Tb45 : Funs := Tb44.add 35 [.str] groatref10_Get_g
theorem Tb45_nat : Tb45.Nat := add_nat Tb44_nat groatref10_Get_n
theorem Tb45_owes : ∀ f, Owes Tryd.prog Tb45 f := add_owes (E := groatref10_Get_E) (Tab.env_ok tab_ok _ _ _ _) mixed Tb44_nat Tb44_owes (fn := Tryd.f35) (code := groatref10_Get_c) Tryd.func35 (by kernel_rfl) (by kernel_rfl) fun l b r b' h => by
  obtain ⟨rfl, h⟩ := noBox_some h
  obtain ⟨x0, h1, h2⟩ := own1 (E := groatref10_Get_E) rfl h
  exact ⟨FUEL, (h2 _ _ _ _ _ _).trans ((groatref10_Get_eq _ x0 _).trans h1)⟩
noncomputable abbrev groatref11_Value_c : Code := Tryd.f17.body.getD .skip
def groatref11_Value_E : Env := tab.env (fun _ => []) (fun _ => []) [] [y5, .str]
theorem groatref11_Value_t (R : Type) (kk : Nat) (s_0 : (Int × Int × Int × Int × Int × Unit)) (text_1 : ByteArray) (K : List SV → Option Box → Option R) : evFn groatref11_Value_E (Tb45 R) kk Tryd.f17 groatref11_Value_c [.dat y5 s_0 [], .dat .str text_1 []] none K =
  groatref11_Value_s0 s_0 text_1 (fun a0 => K [.dat (.int .i64) a0 []] none) := by kernel_rfl
theorem groatref11_Value_eq (R : Type) (s_0 : (Int × Int × Int × Int × Int × Unit)) (text_1 : ByteArray) (K : List SV → Option Box → Option R) : evFn groatref11_Value_E (Tb45 R) FUEL Tryd.f17 groatref11_Value_c [.dat y5 s_0 [], .dat .str text_1 []] none K = (groatref11_Value s_0 text_1).bind fun r => K [.dat (.int .i64) r []] none := by
  rw [groatref11_Value_t]
  simp only [groatref11_Value, groatref11_Value_s0_bind, cond_bind, within_bind, none_bind, some_bind, sum_bind, bind_bind, Sum.elim_inl, Sum.elim_inr]
def groatref11_Value_g : Pure := fun R l b K => noBox b (args2 y5 .str l (fun x0 x1 => (groatref11_Value x0 x1).bind fun r => K [.dat (.int .i64) r []] none))
theorem groatref11_Value_n : groatref11_Value_g.Nat := fun R S l b F G K h => noBox_nat (args2_nat fun _ _ => bindr_nat fun _ => h _ _)
def Tb46 : Funs := Tb45.add 17 [y5, .str] groatref11_Value_g
theorem Tb46_nat : Tb46.Nat := add_nat Tb45_nat groatref11_Value_n
theorem Tb46_owes : ∀ f, Owes Tryd.prog Tb46 f := add_owes (E := groatref11_Value_E) (Tab.env_ok tab_ok _ _ _ _) mixed Tb45_nat Tb45_owes (fn := Tryd.f17) (code := groatref11_Value_c) Tryd.func17 (by kernel_rfl) (by kernel_rfl) fun l b r b' h => by
  obtain ⟨rfl, h⟩ := noBox_some h
  obtain ⟨x0, x1, h1, h2⟩ := own2 (E := groatref11_Value_E) rfl h
  exact ⟨FUEL, (h2 _ _ _ _ _ _).trans ((groatref11_Value_eq _ x0 x1 _).trans h1)⟩
noncomputable abbrev groatlaw20_RuleSame_c : Code := Tryd.f6.body.getD .skip
def groatlaw20_RuleSame_E : Env := tab.env (fun _ => []) (fun _ => []) [] [y10, (.int .i64), .str]
theorem groatlaw20_RuleSame_t (R : Type) (kk : Nat) (s_0 : (Int × Int × (List (Int × Int × Int × Int × Int × Unit)) × Unit)) (no_1 : Int) (text_2 : ByteArray) (K : List SV → Option Box → Option R) : evFn groatlaw20_RuleSame_E (Tb46 R) kk Tryd.f6 groatlaw20_RuleSame_c [.dat y10 s_0 [], .dat (.int .i64) no_1 [], .dat .str text_2 []] none K =
  groatlaw20_RuleSame_s0 s_0 no_1 text_2 (fun a0 => K [.dat .bool a0 []] none) := by kernel_rfl
theorem groatlaw20_RuleSame_eq (R : Type) (s_0 : (Int × Int × (List (Int × Int × Int × Int × Int × Unit)) × Unit)) (no_1 : Int) (text_2 : ByteArray) (K : List SV → Option Box → Option R) : evFn groatlaw20_RuleSame_E (Tb46 R) FUEL Tryd.f6 groatlaw20_RuleSame_c [.dat y10 s_0 [], .dat (.int .i64) no_1 [], .dat .str text_2 []] none K = (groatlaw20_RuleSame s_0 no_1 text_2).bind fun r => K [.dat .bool r []] none := by
  rw [groatlaw20_RuleSame_t]
  simp only [groatlaw20_RuleSame, groatlaw20_RuleSame_s0_bind, cond_bind, within_bind, none_bind, some_bind, sum_bind, bind_bind, Sum.elim_inl, Sum.elim_inr]
def groatlaw20_RuleSame_g : Pure := fun R l b K => noBox b (args3 y10 (.int .i64) .str l (fun x0 x1 x2 => (groatlaw20_RuleSame x0 x1 x2).bind fun r => K [.dat .bool r []] none))
def Tb47 : Funs := Tb46.add 6 [y10, (.int .i64), .str] groatlaw20_RuleSame_g
theorem Tb47_owes : ∀ f, Owes Tryd.prog Tb47 f := add_owes (E := groatlaw20_RuleSame_E) (Tab.env_ok tab_ok _ _ _ _) mixed Tb46_nat Tb46_owes (fn := Tryd.f6) (code := groatlaw20_RuleSame_c) Tryd.func6 (by kernel_rfl) (by kernel_rfl) fun l b r b' h => by
  obtain ⟨rfl, h⟩ := noBox_some h
  obtain ⟨x0, x1, x2, h1, h2⟩ := own3 (E := groatlaw20_RuleSame_E) rfl h
  exact ⟨FUEL, (h2 _ _ _ _ _ _).trans ((groatlaw20_RuleSame_eq _ x0 x1 x2 _).trans h1)⟩
end Go.Proofs.YtkecopkmmcgciaaDoor
