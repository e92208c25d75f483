/- What is shown here: plain functions and what they compute (parts: PuRef25 PuRef05 PuLaw05). No condition. -/
import Derived.Test.YtjlgmoneaehejaaK1
import Derived.KernelRfl
/- Layer 25, the document's side. -/
set_option linter.unusedVariables false
set_option linter.unusedSimpArgs false
namespace Groat
open Go Go.Ref

/-! ### Two lists, element by element -/
section
variable {α : Type} [DecidableEq α]
theorem same_loop' (d : α) (eq : α → α → Bool) (heq : ∀ x y, eq x y = true ↔ x = y) (a b : List α) (hl : a.length = b.length) (h : a.length ≤ 9223372036854775807) (L : Nat → Int → Option (Sum Bool Unit))
    (step : ∀ k (i : Int), L (k + 1) i = bif decide (i < (a.length : Int)) then within i a.length (within i b.length (bif !(eq (a.getD i.toNat d) (b.getD i.toNat d)) then some (.inl false) else L k (IntKind.i64.wrap (i + 1)))) else some (.inr ())) :
    ∀ (m j k : Nat), j + m = a.length → m < k → L k j = some (if a.drop j = b.drop j then .inr () else .inl false)
  | 0, j, k, hj, hk => by
    obtain ⟨k, rfl⟩ : ∃ k', k = k' + 1 := ⟨k - 1, by omega⟩
    rw [step, decide_eq_false (by omega), List.drop_eq_nil_of_le (by omega), List.drop_eq_nil_of_le (by omega)]
    simp
  | m + 1, j, k, hj, hk => by
    obtain ⟨k, rfl⟩ : ∃ k', k = k' + 1 := ⟨k - 1, by omega⟩
    have ha : j < a.length := by omega
    have hb : j < b.length := by omega
    rw [step, decide_eq_true (by omega), cond_true, within_nat_lt ha, within_nat_lt hb, i64_succ (by omega), same_loop' d eq heq a b hl h L step m (j + 1) k (by omega) (by omega), List.drop_eq_getElem_cons ha, List.drop_eq_getElem_cons hb, Int.toNat_natCast]
    have h1 : a.getD j d = a[j] := by rw [List.getD_eq_getElem?_getD, List.getElem?_eq_getElem ha]; rfl
    have h2 : b.getD j d = b[j] := by rw [List.getD_eq_getElem?_getD, List.getElem?_eq_getElem hb]; rfl
    rw [h1, h2]
    by_cases e : a[j] = b[j]
    · rw [(heq _ _).2 e, e]
      simp only [List.cons.injEq, true_and, Bool.not_true, cond_false]
    · have : eq a[j] b[j] = false := by
        cases hh : eq a[j] b[j] with
        | false => rfl
        | true => exact absurd ((heq _ _).1 hh) e
      rw [this]
      simp only [List.cons.injEq, e, false_and, if_false, Bool.not_false, cond_true]
theorem same_loop (d : α) (eq : α → α → Bool) (heq : ∀ x y, eq x y = true ↔ x = y) (a b : List α) (hl : a.length = b.length) (h : a.length ≤ maxLen) (L : Nat → Int → Option (Sum Bool Unit))
    (step : ∀ k (i : Int), L (k + 1) i = bif decide (i < (a.length : Int)) then within i a.length (within i b.length (bif !(eq (a.getD i.toNat d) (b.getD i.toNat d)) then some (.inl false) else L k (IntKind.i64.wrap (i + 1)))) else some (.inr ())) :
    L FUEL 0 = some (if a = b then .inr () else .inl false) := by
  have := same_loop' d eq heq a b hl (by rw [maxLen_eq] at h; exact h) L step a.length 0 FUEL (by omega) (by rw [fuel_eq]; rw [maxLen_eq] at h; omega)
  simpa using this
end
theorem ref25_Same_eq (a b : List ByteArray) (h : a.length ≤ maxLen) : groatref25_Same a b = some (decide (a = b)) := by
  unfold groatref25_Same groatref25_Same_s0
  by_cases hl : a.length = b.length
  · rw [decide_eq_true (by omega)]
    simp only [Bool.not_true, cond_false]
    rw [same_loop (bs []) (fun x y => decide (x = y)) (by simp) a b hl h (fun k i => groatref25_Same_l0 k a b i) (fun k i => rfl)]
    by_cases e : a = b
    · simp [e, groatref25_Same_s3]
    · simp [e, groatref25_Same_s2]
  · rw [decide_eq_false (by omega)]
    have : a ≠ b := fun e => hl (by rw [e])
    simp [this]

/-! ### Whole payloads of a stream -/
def segL (m : Int) (pos : Int) (l : List Int) : List ByteArray × List Int × List Int × Int :=
  if h : l.length < 2 then ([], l, [], -1)
  else if szB l = 0 ∨ m < szB l then ([], [], [], pos + 2)
  else if (l.length : Int) - 2 < szB l then ([], l, [], -1)
  else
    let r := segL m (pos + 2 + szB l) (l.drop (2 + (szB l).toNat))
    (strOf ((l.drop 2).take (szB l).toNat) :: r.1, r.2.1, (pos + 2 + szB l) :: r.2.2.1, r.2.2.2)
termination_by l.length
decreasing_by simp only [List.length_drop]; omega
def segFin (e : Sum (ByteArray × (List ByteArray) × Int × (List Int) × Int × (List ByteArray) × (List Int) × Int) (ByteArray × (List ByteArray) × (List Int) × Int)) : Option ((List ByteArray) × Int × (List Int) × Int) :=
  Sum.elim (fun we => some (we.2.1, we.2.2.1, we.2.2.2.1, we.2.2.2.2.1)) (fun we => some (we.2.1, IntKind.i64.wrap ((we.1.size : Int) - we.2.2.2), we.2.2.1, -1)) e
theorem drop_getD (l : List Int) (j i : Nat) : (l.drop j).getD i 0 = l.getD (j + i) 0 := by
  simp [List.getD_eq_getElem?_getD, List.getElem?_drop]
theorem seg_loop (m : Int) (s : ByteArray) (hs : (bl s).length ≤ 1099511627776) : ∀ (n j k : Nat) (o : List ByteArray) (e : List Int), (bl s).length - j ≤ n → j ≤ (bl s).length → n < k → o.length + n ≤ 2199023255552 → e.length + n ≤ 2199023255552 →
    (groatref25_Segment_l0 k m s o e j).bind segFin = some (o ++ (segL m j ((bl s).drop j)).1, ((segL m j ((bl s).drop j)).2.1.length : Int), e ++ (segL m j ((bl s).drop j)).2.2.1, (segL m j ((bl s).drop j)).2.2.2) := by
  intro n
  induction n using Nat.strongRecOn with
  | _ n ih =>
  intro j k o e hn hj hk ho he
  obtain ⟨k, rfl⟩ : ∃ k', k = k' + 1 := ⟨k - 1, by omega⟩
  rw [groatref25_Segment_l0, groatref25_Segment_s1]
  have hsz : s.size = (bl s).length := (bl_length s).symm
  generalize hl : (bl s).drop j = l
  have hll : l.length = (bl s).length - j := by rw [← hl, List.length_drop]
  have hsub : IntKind.i64.wrap ((s.size : Int) - (j : Int)) = ((l.length : Nat) : Int) := by
    rw [hsz, hll, i64_id (by omega) (by omega)]; omega
  rw [hsub, segL]
  by_cases c0 : l.length < 2
  · rw [decide_eq_false (by omega : ¬ ((2 : Int) ≤ (l.length : Int))), dif_pos c0]
    simp only [cond_false, some_bind, segFin, Sum.elim_inr]
    rw [hsub]
    simp
  rw [decide_eq_true (by omega : ((2 : Int) ≤ (l.length : Int))), cond_true, dif_neg c0]
  have hx : byteAt s ((j : Int)).toNat = l.getD 0 0 := by rw [bl_byteAt, ← hl, drop_getD]; simp
  have hj1 : IntKind.i64.wrap ((j : Int) + 1) = ((j + 1 : Nat) : Int) := i64_succ (by omega)
  have hj2 : IntKind.i64.wrap ((j : Int) + 2) = ((j + 2 : Nat) : Int) := by rw [i64_id (by omega) (by omega)]; omega
  have hy : byteAt s (((j + 1 : Nat) : Int)).toNat = l.getD 1 0 := by rw [bl_byteAt, ← hl, drop_getD]; simp
  have hlb : ∀ x ∈ l, isByte x := fun x hx => bl_byte (List.mem_of_mem_drop (by rw [hl]; exact hx))
  have bx := getD_byte hlb 0
  have b_y := getD_byte hlb 1
  have hz := szB_range hlb
  have hzz : szB l = l.getD 0 0 * 256 + l.getD 1 0 := by unfold szB; rw [if_neg c0]
  unfold isByte at bx b_y
  have w1 : IntKind.i64.wrap (l.getD 0 0) = l.getD 0 0 := i64_id (by omega) (by omega)
  have w2 : IntKind.i64.wrap (l.getD 1 0) = l.getD 1 0 := i64_id (by omega) (by omega)
  have w3 : IntKind.i64.wrap (l.getD 0 0 * 256) = l.getD 0 0 * 256 := i64_id (by omega) (by omega)
  have w4 : IntKind.i64.wrap (l.getD 0 0 * 256 + l.getD 1 0) = szB l := by rw [← hzz]; exact i64_id (by omega) (by omega)
  generalize szB l = z at *
  have w5 : IntKind.i64.wrap (((j + 2 : Nat) : Int) + z) = ((j + 2 + z.toNat : Nat) : Int) := by rw [i64_id (by omega) (by omega)]; omega
  have w6 : IntKind.i64.wrap (((l.length : Nat) : Int) - 2) = (l.length : Int) - 2 := i64_id (by omega) (by omega)
  simp only [hj1, hj2, hx, hy, w1, w2, w3, w4, w5, w6]
  rw [within_nat_lt (by omega), within_nat_lt (by omega)]
  by_cases c1 : z = 0
  · rw [decide_eq_true c1, if_pos (.inl c1)]
    simp [segFin]
  rw [decide_eq_false c1, cond_false]
  by_cases c2 : m < z
  · rw [decide_eq_true c2, if_pos (.inr c2)]
    simp [segFin]
  rw [decide_eq_false c2, if_neg (by simp [c1, c2]), cond_false]
  by_cases c3 : (l.length : Int) - 2 < z
  · rw [decide_eq_true c3, if_pos c3]
    simp [segFin, hsub]
  rw [decide_eq_false c3, if_neg c3]
  simp only [cond_false]
  rw [decide_eq_true (by omega : (0 : Int) ≤ ((j + 2 + z.toNat : Nat) : Int)), decide_eq_true (by omega : ((j + 2 + z.toNat : Nat) : Int) ≤ ((s.size : Nat) : Int)), decide_eq_true (by omega : (0 : Int) ≤ ((j + 2 : Nat) : Int))]
  simp only [cond_true, Int.toNat_natCast]
  rw [decide_eq_true (by omega : ((j + 2 : Nat) : Int) ≤ ((j + 2 + z.toNat : Nat) : Int)), decide_eq_true (by simp; omega), decide_eq_true (by simp; omega)]
  simp only [cond_true]
  have hst : s.extract (j + 2) (j + 2 + z.toNat) = strOf ((l.drop 2).take z.toNat) := by
    apply bl_inj
    rw [bl_strOf (fun x hx => hlb x (List.mem_of_mem_drop (List.mem_of_mem_take hx))), bl_extract, ← hl, List.drop_drop, List.drop_take]
    congr 1
    omega
  have := ih (n - (2 + z.toNat)) (by omega) (j + 2 + z.toNat) k (o ++ [s.extract (j + 2) (j + 2 + z.toNat)]) (e ++ [((j + 2 + z.toNat : Nat) : Int)]) (by omega) (by omega) (by omega) (by simp; omega) (by simp; omega)
  rw [this, hst]
  have hd : (bl s).drop (j + 2 + z.toNat) = l.drop (2 + z.toNat) := by rw [← hl, List.drop_drop]; congr 1; omega
  rw [hd]
  have hp : ((j + 2 + z.toNat : Nat) : Int) = (j : Int) + 2 + z := by omega
  rw [hp]
  simp
theorem ref25_Segment_eq (m : Int) (s : ByteArray) (hs : s.size ≤ 1099511627776) : groatref25_Segment m s = some ((segL m 0 (bl s)).1, ((segL m 0 (bl s)).2.1.length : Int), (segL m 0 (bl s)).2.2.1, (segL m 0 (bl s)).2.2.2) := by
  have := seg_loop m s (by rw [bl_length]; exact hs) (bl s).length 0 FUEL [] [] (by omega) (by omega) (by rw [fuel_eq, bl_length]; omega) (by simp; rw [bl_length]; omega) (by simp; rw [bl_length]; omega)
  unfold groatref25_Segment groatref25_Segment_s0
  rw [show ((0 : Nat) : Int) = 0 from rfl] at this
  simp only [List.drop_zero, List.nil_append] at this
  exact this
end Groat

/- Layer 5, the document's side. -/
set_option linter.unusedVariables false
set_option linter.unusedSimpArgs false
namespace Groat
open Go Go.Ref

theorem getD_int {l : List Int} {j : Nat} (h : j < l.length) : l.getD ((j : Int)).toNat 0 = l[j] := by
  rw [Int.toNat_natCast, List.getD_eq_getElem?_getD, List.getElem?_eq_getElem h]; rfl
theorem in05_loop (l : List Int) (n : Int) (hl : l.length ≤ maxLen) : ∀ (m j k : Nat), j + m = l.length → m < k →
    groatref05_In_l0 k l n j = some (if n ∈ l.drop j then .inl true else .inr ()) := by
  intro m
  rw [maxLen_eq] at hl
  induction m with
  | zero =>
    intro j k hj hk
    obtain ⟨k, rfl⟩ : ∃ k', k = k' + 1 := ⟨k - 1, by omega⟩
    rw [groatref05_In_l0, groatref05_In_s1, decide_eq_false (by omega), List.drop_eq_nil_of_le (by omega)]; simp
  | succ m ih =>
    intro j k hj hk
    obtain ⟨k, rfl⟩ : ∃ k', k = k' + 1 := ⟨k - 1, by omega⟩
    have hlt : j < l.length := by omega
    rw [groatref05_In_l0, groatref05_In_s1, decide_eq_true (by omega), cond_true, within_nat_lt hlt, getD_int hlt, i64_succ (by omega), List.drop_eq_getElem_cons hlt]
    by_cases h : l[j] = n
    · rw [decide_eq_true h, if_pos (by rw [h]; simp)]; rfl
    · rw [decide_eq_false h, cond_false, ih (j + 1) k (by omega) (by omega)]
      have : n ≠ l[j] := fun e => h e.symm
      simp only [List.mem_cons, this, false_or]
theorem In05_eq (l : List Int) (n : Int) (hl : l.length ≤ maxLen) : groatref05_In l n = some (decide (n ∈ l)) := by
  unfold groatref05_In groatref05_In_s0
  dsimp only
  have := in05_loop l n hl l.length 0 FUEL (by omega) (by rw [fuel_eq]; rw [maxLen_eq] at hl; omega)
  rw [show ((0 : Nat) : Int) = 0 from rfl, List.drop_zero] at this
  rw [this, some_bind]
  by_cases h : n ∈ l
  · rw [if_pos h, decide_eq_true h]; rfl
  · rw [if_neg h, decide_eq_false h]; rfl
theorem has05_loop : ∀ (m : Nat) (x j n k : Nat), x < B64 → j + m = n → n ≤ 200 → m < k → groatref05_Has_l0 k (x : Int) n j = some ((x / 2 ^ m : Nat) : Int) := by
  intro m
  induction m with
  | zero =>
    intro x j n k hx hj hn hk
    obtain ⟨k, rfl⟩ : ∃ k', k = k' + 1 := ⟨k - 1, by omega⟩
    rw [groatref05_Has_l0, groatref05_Has_s1, decide_eq_false (by omega)]; simp
  | succ m ih =>
    intro x j n k hx hj hn hk
    obtain ⟨k, rfl⟩ : ∃ k', k = k' + 1 := ⟨k - 1, by omega⟩
    have hx : x < 18446744073709551616 := hx
    rw [groatref05_Has_l0, groatref05_Has_s1, decide_eq_true (by omega), cond_true, i64_succ (by omega), Int.tdiv_eq_ediv_of_nonneg (by omega)]
    have e : IntKind.u64.wrap ((x : Int) / 2) = ((x / 2 : Nat) : Int) := by
      rw [u64_id (by omega) (by omega)]; omega
    rw [e, ih (x / 2) (j + 1) n k (by show x / 2 < 18446744073709551616; omega) (by omega) hn (by omega), Nat.div_div_eq_div_mul, ← Nat.pow_succ']
theorem Has05_eq (h l : Nat) (hh : h < B64) (hl : l < B64) (n : Int) : groatref05_Has (h : Int) (l : Int) n = some (hasN h l n) := by
  unfold groatref05_Has groatref05_Has_s0 hasN
  have fin : ∀ (x : Nat) (i : Nat), decide (Int.tmod ((x / 2 ^ i : Nat) : Int) 2 = 1) = x.testBit i := by
    intro x i
    rw [Nat.testBit_eq_decide_div_mod_eq, Int.tmod_eq_emod_of_nonneg (Int.natCast_nonneg _)]
    generalize x / 2 ^ i = q
    exact decide_eq_decide.2 (by omega)
  by_cases h1 : n < 1
  · rw [decide_eq_true h1, if_neg (by omega), if_neg (by omega)]; rfl
  rw [decide_eq_false h1, cond_false]
  by_cases h2 : 128 < n
  · rw [decide_eq_true h2, if_neg (by omega), if_neg (by omega)]; rfl
  rw [decide_eq_false h2, cond_false]
  by_cases h3 : 64 < n
  · rw [decide_eq_true h3, cond_true, if_neg (by omega), if_pos (by omega), i64_id (by omega) (by omega)]
    have := has05_loop (128 - n).toNat l 0 (128 - n).toNat FUEL hl (by omega) (by omega) (by rw [fuel_eq]; omega)
    have e : (((128 - n).toNat : Nat) : Int) = 128 - n := by omega
    rw [e] at this
    have e2 : groatref05_Has_l0 FUEL (l : Int) (128 - n) 0 = _ := this
    dsimp only
    rw [e2, some_bind]
    simp only [groatref05_Has_s2, fin]
  · rw [decide_eq_false h3, cond_false, if_pos (by omega), i64_id (by omega) (by omega)]
    have := has05_loop (64 - n).toNat h 0 (64 - n).toNat FUEL hh (by omega) (by omega) (by rw [fuel_eq]; omega)
    have e : (((64 - n).toNat : Nat) : Int) = 64 - n := by omega
    rw [e] at this
    have e2 : groatref05_Has_l0 FUEL (h : Int) (64 - n) 0 = _ := this
    dsimp only
    rw [e2, some_bind]
    simp only [groatref05_Has_s2, fin]
theorem nums_at {j : Nat} (h : j < nums.length) : nums[j] = ((j + 1 : Nat) : Int) := by
  unfold nums; simp
theorem nums_len : nums.length = 128 := by unfold nums; simp
theorem list05_loop (h l : Nat) (hh : h < B64) (hl : l < B64) : ∀ (m j k : Nat) (o : List Int), j + m = 128 → m < k → o.length ≤ j →
    groatref05_List_l0 k (h : Int) (l : Int) o ((j + 1 : Nat) : Int) = some (o ++ (nums.drop j).filter (hasN h l)) := by
  intro m
  induction m with
  | zero =>
    intro j k o hj hk ho
    obtain ⟨k, rfl⟩ : ∃ k', k = k' + 1 := ⟨k - 1, by omega⟩
    rw [groatref05_List_l0, groatref05_List_s1, decide_eq_false (by omega), List.drop_eq_nil_of_le (by rw [nums_len]; omega)]; simp
  | succ m ih =>
    intro j k o hj hk ho
    obtain ⟨k, rfl⟩ : ∃ k', k = k' + 1 := ⟨k - 1, by omega⟩
    have hlt : j < nums.length := by rw [nums_len]; omega
    rw [groatref05_List_l0, groatref05_List_s1, decide_eq_true (by omega), cond_true, Has05_eq h l hh hl, some_bind, i64_succ (by omega), List.drop_eq_getElem_cons hlt, nums_at hlt, List.filter_cons]
    cases hb : hasN h l ((j + 1 : Nat) : Int) with
    | false =>
      rw [cond_false, ih (j + 1) k o (by omega) (by omega) (by omega)]; rfl
    | true =>
      rw [cond_true, decide_eq_true (by simp; omega), cond_true, ih (j + 1) k _ (by omega) (by omega) (by simp; omega)]
      simp
theorem List05_eq (h l : Nat) (hh : h < B64) (hl : l < B64) : groatref05_List (h : Int) (l : Int) = some (elems h l) := by
  unfold groatref05_List groatref05_List_s0
  dsimp only
  have := list05_loop h l hh hl 128 0 FUEL [] (by omega) (by rw [fuel_eq]; omega) (by simp)
  have e : groatref05_List_l0 FUEL (h : Int) (l : Int) [] 1 = _ := this
  rw [e, some_bind]
  simp [groatref05_List_s2, elems]
theorem next05_loop (h l : Nat) (hh : h < B64) (hl : l < B64) (n : Int) : ∀ (m j k : Nat), j + m = 128 → m < k →
    groatref05_Next_l0 k (h : Int) (l : Int) n ((j + 1 : Nat) : Int) = some (match (nums.drop j).filter (fun x => decide (n < x) && hasN h l x) with | [] => .inr () | x :: _ => .inl x) := by
  intro m
  induction m with
  | zero =>
    intro j k hj hk
    obtain ⟨k, rfl⟩ : ∃ k', k = k' + 1 := ⟨k - 1, by omega⟩
    rw [groatref05_Next_l0, groatref05_Next_s1, decide_eq_false (by omega), List.drop_eq_nil_of_le (by rw [nums_len]; omega)]; rfl
  | succ m ih =>
    intro j k hj hk
    obtain ⟨k, rfl⟩ : ∃ k', k = k' + 1 := ⟨k - 1, by omega⟩
    have hlt : j < nums.length := by rw [nums_len]; omega
    rw [groatref05_Next_l0, groatref05_Next_s1, decide_eq_true (by omega), cond_true, i64_succ (by omega), List.drop_eq_getElem_cons hlt, nums_at hlt, List.filter_cons]
    by_cases h1 : n < ((j + 1 : Nat) : Int)
    · rw [decide_eq_true h1, cond_true, Has05_eq h l hh hl, some_bind]
      cases hb : hasN h l ((j + 1 : Nat) : Int) with
      | false =>
        rw [cond_false, ih (j + 1) k (by omega) (by omega)]; rfl
      | true => rfl
    · rw [decide_eq_false h1, cond_false, ih (j + 1) k (by omega) (by omega)]; rfl
theorem Next05_eq (h l : Nat) (hh : h < B64) (hl : l < B64) (n : Int) : groatref05_Next (h : Int) (l : Int) n = some (nextN h l n) := by
  unfold groatref05_Next groatref05_Next_s0
  dsimp only
  have := next05_loop h l hh hl n 128 0 FUEL (by omega) (by rw [fuel_eq]; omega)
  have e : groatref05_Next_l0 FUEL (h : Int) (l : Int) n 1 = _ := this
  rw [e, some_bind, List.drop_zero]
  unfold nextN elems
  rw [List.filter_filter]
  cases nums.filter (fun x => decide (n < x) && hasN h l x) <;> rfl
theorem Same05_eq (a b : List Int) (h : a.length ≤ maxLen) : groatref05_Same a b = some (decide (a = b)) := by
  unfold groatref05_Same groatref05_Same_s0
  by_cases hl : a.length = b.length
  · rw [decide_eq_true (by omega)]
    simp only [Bool.not_true, cond_false]
    rw [same_loop (0 : Int) (fun x y => decide (x = y)) (by simp) a b hl h (fun k i => groatref05_Same_l0 k a b i) (fun k i => rfl)]
    by_cases e : a = b
    · simp [e, groatref05_Same_s3]
    · simp [e, groatref05_Same_s2]
  · rw [decide_eq_false (by omega)]
    have : a ≠ b := fun e => hl (by rw [e])
    simp [this]
/-- The bits of the numbers base+1 .. base+m of a list. -/
def wordV (l : List Int) (base : Nat) : Nat → Nat
  | 0 => 0
  | m + 1 => 2 * wordV l base m + (if ((base + m + 1 : Nat) : Int) ∈ l then 1 else 0)
theorem wordV_succ (l : List Int) (base m : Nat) : wordV l base (m + 1) = 2 * wordV l base m + (if ((base + m + 1 : Nat) : Int) ∈ l then 1 else 0) := rfl
theorem wordV_lt (l : List Int) (base : Nat) : ∀ m, wordV l base m < 2 ^ m
  | 0 => by simp [wordV]
  | m + 1 => by
    have := wordV_lt l base m
    rw [wordV, Nat.pow_succ]
    split <;> omega
theorem wordV_bit (l : List Int) (base : Nat) : ∀ m i, i < m → (wordV l base m).testBit i = decide (((base + m - i : Nat) : Int) ∈ l)
  | 0, i, h => absurd h (Nat.not_lt_zero i)
  | m + 1, 0, h => by
    rw [wordV, Nat.testBit_zero, Nat.sub_zero]
    have e : base + (m + 1) = base + m + 1 := by omega
    rw [e]
    by_cases hm : ((base + m + 1 : Nat) : Int) ∈ l
    · rw [if_pos hm, decide_eq_true hm]
      exact decide_eq_true (by omega)
    · rw [if_neg hm, decide_eq_false hm]
      exact decide_eq_false (by omega)
  | m + 1, i + 1, h => by
    rw [wordV, Nat.testBit_succ]
    have e : (2 * wordV l base m + (if ((base + m + 1 : Nat) : Int) ∈ l then 1 else 0)) / 2 = wordV l base m := by split <;> omega
    rw [e, wordV_bit l base m i (by omega)]
    have e2 : base + (m + 1) - (i + 1) = base + m - i := by omega
    rw [e2]
theorem word_has (l : List Int) (n : Int) : hasN (wordV l 0 64) (wordV l 64 64) n = (decide (n ∈ l) && inR n) := by
  unfold hasN inR
  by_cases h1 : 1 ≤ n ∧ n ≤ 64
  · rw [if_pos h1, wordV_bit l 0 64 _ (by omega), decide_eq_true (p := 1 ≤ n ∧ n ≤ 128) (by omega), Bool.and_true]
    have : ((0 + 64 - (64 - n).toNat : Nat) : Int) = n := by omega
    rw [this]
  · rw [if_neg h1]
    by_cases h2 : 65 ≤ n ∧ n ≤ 128
    · rw [if_pos h2, wordV_bit l 64 64 _ (by omega), decide_eq_true (p := 1 ≤ n ∧ n ≤ 128) (by omega), Bool.and_true]
      have : ((64 + 64 - (128 - n).toNat : Nat) : Int) = n := by omega
      rw [this]
    · rw [if_neg h2, decide_eq_false (p := 1 ≤ n ∧ n ≤ 128) (by omega), Bool.and_false]
theorem halves05_loop (l : List Int) (hl : l.length ≤ maxLen) : ∀ (m j k : Nat), j + m = 128 → m < k →
    groatref05_Halves_l0 k l (wordV l 0 (min j 64) : Int) (wordV l 64 (j - 64) : Int) ((j + 1 : Nat) : Int) = some ((wordV l 0 64 : Int), (wordV l 64 64 : Int)) := by
  intro m
  induction m with
  | zero =>
    intro j k hj hk
    obtain ⟨k, rfl⟩ : ∃ k', k = k' + 1 := ⟨k - 1, by omega⟩
    rw [groatref05_Halves_l0, groatref05_Halves_s1, decide_eq_false (by omega)]
    have : j = 128 := by omega
    subst this; rfl
  | succ m ih =>
    intro j k hj hk
    obtain ⟨k, rfl⟩ : ∃ k', k = k' + 1 := ⟨k - 1, by omega⟩
    rw [groatref05_Halves_l0, groatref05_Halves_s1, decide_eq_true (by omega), cond_true, i64_succ (by omega)]
    have step : ∀ (v : Nat), v < 2 ^ 63 → IntKind.u64.wrap ((v : Int) * 2) = ((2 * v : Nat) : Int) ∧ IntKind.u64.wrap (((2 * v : Nat) : Int) + 1) = ((2 * v + 1 : Nat) : Int) := by
      intro v hv
      rw [u64_id (by omega) (by omega), u64_id (by omega) (by omega)]
      omega
    have ihj := ih (j + 1) k (by omega) (by omega)
    rw [In05_eq l _ hl]
    by_cases h1 : ((j + 1 : Nat) : Int) ≤ 64
    · rw [decide_eq_true h1, cond_true, some_bind]
      have e1 : min j 64 = j := by omega
      have e2 : min (j + 1) 64 = j + 1 := by omega
      have e3 : j + 1 - 64 = j - 64 := by omega
      have hlt : wordV l 0 j < 2 ^ 63 := Nat.lt_of_lt_of_le (wordV_lt l 0 j) (Nat.pow_le_pow_right (by decide) (by omega))
      rw [e2, e3, wordV_succ l 0 j, Nat.zero_add] at ihj
      rw [e1, (step _ hlt).1]
      by_cases hm : ((j + 1 : Nat) : Int) ∈ l
      · rw [decide_eq_true hm, cond_true, (step _ hlt).2]
        rw [if_pos hm] at ihj; exact ihj
      · rw [decide_eq_false hm, cond_false]
        rw [if_neg hm] at ihj; exact ihj
    · rw [decide_eq_false h1, cond_false, some_bind]
      have e1 : min j 64 = 64 := by omega
      have e2 : min (j + 1) 64 = 64 := by omega
      have e3 : j + 1 - 64 = (j - 64) + 1 := by omega
      have hlt : wordV l 64 (j - 64) < 2 ^ 63 := Nat.lt_of_lt_of_le (wordV_lt l 64 _) (Nat.pow_le_pow_right (by decide) (by omega))
      have e4 : 64 + (j - 64) + 1 = j + 1 := by omega
      rw [e2, e3, wordV_succ l 64 (j - 64), e4] at ihj
      rw [e1, (step _ hlt).1]
      by_cases hm : ((j + 1 : Nat) : Int) ∈ l
      · rw [decide_eq_true hm, cond_true, (step _ hlt).2]
        rw [if_pos hm] at ihj; exact ihj
      · rw [decide_eq_false hm, cond_false]
        rw [if_neg hm] at ihj; exact ihj
theorem word_set (l : List Int) : wordV l 0 64 = setH l ∧ wordV l 64 64 = setL l :=
  set_ext (wordV_lt l 0 64) (wordV_lt l 64 64) (setH_lt l) (setL_lt l) (fun n _ _ => by rw [word_has, set_has])
theorem Halves05_eq (l : List Int) (hl : l.length ≤ maxLen) : groatref05_Halves l = some ((setH l : Int), (setL l : Int)) := by
  unfold groatref05_Halves groatref05_Halves_s0
  dsimp only
  have := halves05_loop l hl 128 0 FUEL (by omega) (by rw [fuel_eq]; omega)
  have e : groatref05_Halves_l0 FUEL l 0 0 1 = _ := this
  rw [e, some_bind, (word_set l).1, (word_set l).2]; rfl
end Groat

/- The laws of layer 5, over plain functions. -/
set_option linter.unusedVariables false
set_option linter.unusedSimpArgs false
namespace Groat
open Go Go.Ref

theorem awake05 : groatlaw05_awake = some true := by kernel_rfl
theorem pure_FieldsOf (l : List Int) (h : Wf (.sl 0 (.int .i64)) l) : groatlaw05_FieldsOf l = some true := by
  have hl : l.length ≤ maxLen := h.1
  unfold groatlaw05_FieldsOf groatlaw05_FieldsOf_s0
  simp only [awake05, some_bind, Bool.not_true, cond_false]
  by_cases h1 : (500 : Int) < (l.length : Int)
  · rw [decide_eq_true h1]; rfl
  rw [decide_eq_false h1, cond_false, decide_eq_true (by simp; omega), cond_true, List.nil_append, Of_eq l hl, some_bind]
  simp only [fields_Set_Halves, fields_Set_Halves_s0, some_bind]
  rw [Halves05_eq l hl]
  simp
theorem u64_toNat {x : Int} (h : Wf (.int .u64) x) : ∃ n : Nat, x = (n : Int) ∧ n < B64 := by
  have := wf_u64 h
  exact ⟨x.toNat, by omega, by show x.toNat < 18446744073709551616; omega⟩
theorem filter_next {l pre post : List Int} {x : Int} (hs : l.Pairwise (· < ·)) (e : l = pre ++ x :: post) : (l.filter fun m => decide (x < m)) = post := by
  subst e
  obtain ⟨h1, h2, h3⟩ := List.pairwise_append.1 hs
  obtain ⟨h4, h5⟩ := List.pairwise_cons.1 h2
  rw [List.filter_append, List.filter_cons]
  have a : (pre.filter fun m => decide (x < m)) = [] := by
    apply List.filter_eq_nil_iff.2
    intro y hy
    have := h3 y hy x (by simp)
    simp; omega
  have b : (post.filter fun m => decide (x < m)) = post := by
    apply List.filter_eq_self.2
    intro y hy
    simpa using h4 y hy
  rw [a, b]
  simp
theorem next_at {h l : Nat} {pre post : List Int} {x : Int} (e : elems h l = pre ++ x :: post) : nextN h l x = post.headD 0 := by
  unfold nextN
  rw [filter_next (elems_sorted h l) e]
theorem next_first (h l : Nat) : nextN h l 0 = (elems h l).headD 0 := by
  unfold nextN
  congr 1
  apply List.filter_eq_self.2
  intro y hy
  have := has_range ((mem_elems h l y).1 hy)
  simp; omega
theorem list_loop05 (h l : Nat) (hh : h < B64) (hl : l < B64) : ∀ (post pre : List Int) (k : Nat) (cur : Int), cur = post.headD 0 → elems h l = pre ++ post → post.length < k →
    groatlaw05_list_l0 k pre cur ((h : Int), (l : Int), ()) = some (.inr (elems h l))
  | [], pre, k, cur, hcur, e, hk => by
    have hcur : cur = 0 := hcur
    subst hcur
    obtain ⟨k, rfl⟩ : ∃ k', k = k' + 1 := ⟨k - 1, by have := hk; simp at this; omega⟩
    rw [groatlaw05_list_l0, groatlaw05_list_s1]
    rw [List.append_nil] at e
    simp [e]
  | x :: post, pre, k, cur, hcur, e, hk => by
    have hcx : cur = x := hcur
    clear hcur
    rw [hcx]
    clear hcx cur
    have hx := has_range ((mem_elems h l x).1 (by rw [e]; simp))
    obtain ⟨k, rfl⟩ : ∃ k', k = k' + 1 := ⟨k - 1, by have := hk; simp at this; omega⟩
    have hn := next_at e
    have hlen : (elems h l).length ≤ 128 := by
      unfold elems
      exact Nat.le_trans (List.length_filter_le _ _) (by rw [nums_len]; omega)
    have hlen2 : pre.length ≤ 128 := by rw [e] at hlen; simp at hlen; omega
    have ih := list_loop05 h l hh hl post (pre ++ [x]) k (post.headD 0) rfl (by rw [e]; simp) (by simp at hk; omega)
    rw [groatlaw05_list_l0, groatlaw05_list_s1]
    rw [decide_eq_false (by omega : ¬ x = 0), decide_eq_false (by omega : ¬ x < 1), decide_eq_false (by omega : ¬ 128 < x)]
    simp only [Bool.not_false, cond_true, cond_false]
    have happ : (pre.length + [x].length) * 8 ≤ 140737488355328 := by simp; omega
    rw [Next_eq h l hh hl x (by omega) (by omega), decide_eq_true happ, some_bind, hn]
    simp only [cond_true]
    by_cases h0 : 0 < pre.length
    · have hp := (List.pairwise_append.1 (e ▸ elems_sorted h l)).2.2
      have hlast : pre.getD (pre.length - 1) 0 < x := by
        rw [List.getD_eq_getElem?_getD, List.getElem?_eq_getElem (by omega)]
        exact hp _ (List.getElem_mem _) x (by simp)
      rw [decide_eq_true (by omega : (0 : Int) < (pre.length : Int)), cond_true, i64_id (by omega) (by omega)]
      have hi : ((pre.length : Int) - 1) = ((pre.length - 1 : Nat) : Int) := by omega
      rw [hi, within_nat_lt (by omega), Int.toNat_natCast, decide_eq_false (by omega), cond_false]
      exact ih
    · rw [decide_eq_false (by omega : ¬ (0 : Int) < (pre.length : Int)), cond_false]
      exact ih
theorem list_eq05 (h l : Nat) (hh : h < B64) (hl : l < B64) : groatlaw05_list ((h : Int), (l : Int), ()) = some (.inr (elems h l, true)) := by
  unfold groatlaw05_list groatlaw05_list_s0
  dsimp only
  have hlen : (elems h l).length ≤ 128 := by
    unfold elems
    exact Nat.le_trans (List.length_filter_le _ _) (by rw [nums_len]; omega)
  rw [Next_eq h l hh hl 0 (by omega) (by omega), some_bind, next_first, list_loop05 h l hh hl (elems h l) [] FUEL _ rfl (by simp) (by rw [fuel_eq]; omega)]
  rfl
theorem pure_FieldsBits (a b n : Int) (ha : Wf (.int .u64) a) (hb : Wf (.int .u64) b) (hn : Wf (.int .i64) n) : groatlaw05_FieldsBits a b n = some true := by
  obtain ⟨h, rfl, hh⟩ := u64_toNat ha
  obtain ⟨l, rfl, hl⟩ := u64_toNat hb
  have hn := wf_i64 hn
  have hlen : (elems h l).length ≤ 128 := by
    unfold elems
    exact Nat.le_trans (List.length_filter_le _ _) (by rw [nums_len]; omega)
  unfold groatlaw05_FieldsBits groatlaw05_FieldsBits_s0
  simp only [fields_Bits, fields_Bits_s0, some_bind, fields_Set_Halves, fields_Set_Halves_s0, List05_eq h l hh hl, list_eq05 h l hh hl, Sum.elim_inr, awake05, Has_eq h l hh hl, Has05_eq h l hh hl, Len_eq h l hh hl, Next_eq h l hh hl n hn.1 hn.2, Next05_eq h l hh hl, Same05_eq _ _ (Nat.le_trans hlen (by rw [maxLen_eq]; omega))]
  simp
theorem pair_of_wf {x : List Int} (h : Wf (.arr 2 (.int .u64)) x) : ∃ a b : Nat, x = [(a : Int), (b : Int)] ∧ a < B64 ∧ b < B64 := by
  obtain ⟨h1, h2⟩ := h
  match x, h1, h2 with
  | [a, b], _, h2 =>
    obtain ⟨a', rfl, ha⟩ := u64_toNat (h2 a (by simp))
    obtain ⟨b', rfl, hb⟩ := u64_toNat (h2 b (by simp))
    exact ⟨a', b', rfl, ha, hb⟩
theorem w02 {R : Type} (x : Option R) : within 0 2 x = x := within_int (by omega) (by omega)
theorem w12 {R : Type} (x : Option R) : within 1 2 x = x := within_int (by omega) (by omega)
theorem bxor_lt (n : Int) : B64 - 1 - bitH n < B64 ∧ B64 - 1 - bitL n < B64 := by
  show 18446744073709551616 - 1 - bitH n < 18446744073709551616 ∧ 18446744073709551616 - 1 - bitL n < 18446744073709551616
  omega
theorem pure_FieldsOrder (x : List Int) (n m : Int) (hx : Wf (.arr 2 (.int .u64)) x) (hn : Wf (.int .i64) n) (hm : Wf (.int .i64) m) : groatlaw05_FieldsOrder x n m = some true := by
  obtain ⟨h, l, rfl, hh, hl⟩ := pair_of_wf hx
  unfold groatlaw05_FieldsOrder groatlaw05_FieldsOrder_s0
  have g0 : List.getD [(h : Int), (l : Int)] ((0 : Int)).toNat 0 = (h : Int) := rfl
  have g1 : List.getD [(h : Int), (l : Int)] ((1 : Int)).toNat 0 = (l : Int) := rfl
  simp only [g0, g1, w02, w12, fields_Bits, fields_Bits_s0, some_bind, With_eq h l hh hl, Without_eq h l hh hl, awake05, Has_eq h l hh hl, Has_eq _ _ (or_lt hh (bitH_lt n)) (or_lt hl (bitL_lt n)), Has_eq _ _ (and_lt (b := B64 - 1 - bitH n) hh) (and_lt (b := B64 - 1 - bitL n) hl), has_with, has_without]
  have e : inR n = (decide (1 ≤ n) && decide (n ≤ 128)) := by unfold inR; by_cases h1 : 1 ≤ n <;> by_cases h2 : n ≤ 128 <;> simp [h1, h2]
  have hr : hasN h l n = true → 1 ≤ n ∧ n ≤ 128 := has_range
  cases hb : hasN h l n with
  | false =>
    by_cases h1 : 1 ≤ n <;> by_cases h2 : n ≤ 128 <;> by_cases hmn : m = n <;> simp [e, h1, h2, hmn, eq_comm (a := n) (b := m)]
  | true =>
    have := hr hb
    by_cases hmn : m = n <;> simp [e, this.1, this.2, hmn, eq_comm (a := n) (b := m)]
theorem count_or_and (p q : Int → Bool) (l : List Int) : (l.filter fun n => p n && q n).length + (l.filter fun n => p n || q n).length = (l.filter p).length + (l.filter q).length := by
  induction l with
  | nil => rfl
  | cons x r ih =>
    simp only [List.filter_cons]
    cases p x <;> cases q x <;> simp <;> omega
theorem Bits_eq (a b : Int) : fields_Bits a b = some (a, b, ()) := by unfold fields_Bits fields_Bits_s0; rfl
theorem pure_FieldsJoin (x y : List Int) (n : Int) (hx : Wf (.arr 2 (.int .u64)) x) (hy : Wf (.arr 2 (.int .u64)) y) (hn : Wf (.int .i64) n) : groatlaw05_FieldsJoin x y n = some true := by
  obtain ⟨h, l, rfl, hh, hl⟩ := pair_of_wf hx
  obtain ⟨h', l', rfl, hh', hl'⟩ := pair_of_wf hy
  unfold groatlaw05_FieldsJoin groatlaw05_FieldsJoin_s0
  have g0 : ∀ a b : Nat, List.getD [(a : Int), (b : Int)] ((0 : Int)).toNat 0 = (a : Int) := fun _ _ => rfl
  have g1 : ∀ a b : Nat, List.getD [(a : Int), (b : Int)] ((1 : Int)).toNat 0 = (b : Int) := fun _ _ => rfl
  have hlen : ∀ a b : Nat, (elems a b).length ≤ 128 := fun a b => by
    unfold elems
    exact Nat.le_trans (List.length_filter_le _ _) (by rw [nums_len]; omega)
  have hcount : (elems (h &&& h') (l &&& l')).length + (elems (h ||| h') (l ||| l')).length = (elems h l).length + (elems h' l').length := by
    have := count_or_and (hasN h l) (hasN h' l') nums
    unfold elems
    rw [← this, List.filter_congr (fun k _ => has_and h l h' l' k), List.filter_congr (fun k _ => has_or h l h' l' k)]
  have a1 := hlen (h &&& h') (l &&& l'); have a2 := hlen (h ||| h') (l ||| l'); have a3 := hlen h l; have a4 := hlen h' l'
  simp only [g0, g1, w02, w12, Bits_eq, some_bind]
  simp only [some_bind, Both_eq h l h' l' hh hl hh' hl', Either_eq h l h' l' hh hl hh' hl', Both_eq h' l' h l hh' hl' hh hl, Either_eq h' l' h l hh' hl' hh hl, awake05, Nat.and_comm h' h, Nat.and_comm l' l, Nat.or_comm h' h, Nat.or_comm l' l, Has_eq h l hh hl, Has_eq h' l' hh' hl', Has_eq _ _ (or_lt hh hh') (or_lt hl hl'), Has_eq _ _ (and_lt (b := h') hh) (and_lt (b := l') hl), has_or, has_and, Len_eq h l hh hl, Len_eq h' l' hh' hl', Len_eq _ _ (or_lt hh hh') (or_lt hl hl'), Len_eq _ _ (and_lt (b := h') hh) (and_lt (b := l') hl)]
  rw [i64_id (x := (((elems (h &&& h') (l &&& l')).length : Nat) : Int) + _) (by omega) (by omega), i64_id (x := (((elems h l).length : Nat) : Int) + _) (by omega) (by omega)]
  have hc : (((elems (h &&& h') (l &&& l')).length : Nat) : Int) + (((elems (h ||| h') (l ||| l')).length : Nat) : Int) = (((elems h l).length : Nat) : Int) + (((elems h' l').length : Nat) : Int) := by omega
  rw [hc]
  cases hasN h l n <;> cases hasN h' l' n <;> simp
end Groat
