/- No condition. -/
import Derived.Test.YthdphoohfdiodaaGreatDoorK1
import Derived.Laws.RangeString
import Derived.KernelRfl
set_option linter.unusedVariables false
set_option linter.unusedSimpArgs false
set_option maxRecDepth 100000
namespace Groat
open Go Go.Ref
def r14_both_s0 {R : Type}  (kr0 : Zt2 → Option R) : Option R :=
  (kr0 ([([(2 : Int), (1 : Int), (2 : Int), (12 : Int), (19 : Int), (1 : Int), (2 : Int), (12 : Int), (19 : Int)] : List Int), ([(3 : Int), (1 : Int), (1 : Int), (6 : Int), (6 : Int), (1 : Int), (1 : Int), (6 : Int), (6 : Int)] : List Int), ([(4 : Int), (1 : Int), (1 : Int), (12 : Int), (12 : Int), (1 : Int), (1 : Int), (12 : Int), (12 : Int)] : List Int), ([(7 : Int), (1 : Int), (1 : Int), (10 : Int), (10 : Int), (1 : Int), (1 : Int), (10 : Int), (10 : Int)] : List Int), ([(11 : Int), (1 : Int), (1 : Int), (6 : Int), (6 : Int), (1 : Int), (1 : Int), (6 : Int), (6 : Int)] : List Int), ([(12 : Int), (1 : Int), (1 : Int), (6 : Int), (6 : Int), (1 : Int), (1 : Int), (12 : Int), (12 : Int)] : List Int), ([(13 : Int), (1 : Int), (1 : Int), (4 : Int), (4 : Int), (0 : Int), (0 : Int), (0 : Int), (0 : Int)] : List Int), ([(14 : Int), (1 : Int), (1 : Int), (4 : Int), (4 : Int), (1 : Int), (1 : Int), (4 : Int), (4 : Int)] : List Int), ([(18 : Int), (1 : Int), (1 : Int), (4 : Int), (4 : Int), (0 : Int), (0 : Int), (0 : Int), (0 : Int)] : List Int), ([(22 : Int), (1 : Int), (1 : Int), (3 : Int), (3 : Int), (3 : Int), (1 : Int), (12 : Int), (12 : Int)] : List Int), ([(23 : Int), (1 : Int), (1 : Int), (3 : Int), (3 : Int), (1 : Int), (1 : Int), (3 : Int), (3 : Int)] : List Int), ([(26 : Int), (0 : Int), (0 : Int), (0 : Int), (0 : Int), (1 : Int), (1 : Int), (4 : Int), (4 : Int)] : List Int), ([(32 : Int), (1 : Int), (2 : Int), (1 : Int), (11 : Int), (1 : Int), (2 : Int), (1 : Int), (11 : Int)] : List Int), ([(35 : Int), (4 : Int), (2 : Int), (1 : Int), (37 : Int), (4 : Int), (2 : Int), (1 : Int), (37 : Int)] : List Int), ([(37 : Int), (3 : Int), (1 : Int), (12 : Int), (12 : Int), (3 : Int), (1 : Int), (12 : Int), (12 : Int)] : List Int), ([(38 : Int), (3 : Int), (1 : Int), (6 : Int), (6 : Int), (3 : Int), (1 : Int), (6 : Int), (6 : Int)] : List Int), ([(39 : Int), (3 : Int), (1 : Int), (2 : Int), (2 : Int), (1 : Int), (1 : Int), (3 : Int), (3 : Int)] : List Int), ([(41 : Int), (4 : Int), (1 : Int), (8 : Int), (8 : Int), (4 : Int), (1 : Int), (8 : Int), (8 : Int)] : List Int), ([(42 : Int), (4 : Int), (1 : Int), (15 : Int), (15 : Int), (4 : Int), (1 : Int), (15 : Int), (15 : Int)] : List Int), ([(43 : Int), (4 : Int), (1 : Int), (40 : Int), (40 : Int), (4 : Int), (2 : Int), (1 : Int), (99 : Int)] : List Int), ([(48 : Int), (4 : Int), (3 : Int), (1 : Int), (999 : Int), (4 : Int), (3 : Int), (1 : Int), (999 : Int)] : List Int), ([(49 : Int), (1 : Int), (1 : Int), (3 : Int), (3 : Int), (1 : Int), (1 : Int), (3 : Int), (3 : Int)] : List Int), ([(52 : Int), (5 : Int), (1 : Int), (8 : Int), (8 : Int), (5 : Int), (1 : Int), (8 : Int), (8 : Int)] : List Int), ([(55 : Int), (6 : Int), (3 : Int), (1 : Int), (255 : Int), (6 : Int), (3 : Int), (1 : Int), (255 : Int)] : List Int), ([(64 : Int), (5 : Int), (1 : Int), (8 : Int), (8 : Int), (5 : Int), (1 : Int), (8 : Int), (8 : Int)] : List Int), ([(70 : Int), (1 : Int), (1 : Int), (3 : Int), (3 : Int), (1 : Int), (1 : Int), (3 : Int), (3 : Int)] : List Int), ([(90 : Int), (1 : Int), (1 : Int), (42 : Int), (42 : Int), (0 : Int), (0 : Int), (0 : Int), (0 : Int)] : List Int), ([(102 : Int), (4 : Int), (2 : Int), (1 : Int), (28 : Int), (4 : Int), (2 : Int), (1 : Int), (28 : Int)] : List Int), ([(128 : Int), (5 : Int), (1 : Int), (8 : Int), (8 : Int), (5 : Int), (1 : Int), (8 : Int), (8 : Int)] : List Int)] : List (List Int)))
theorem r14_both_s0_bind {R S : Type} (F : R → Option S)  (kr0 : Zt2 → Option R) : (r14_both_s0 kr0).bind F = r14_both_s0 (fun a0 => (kr0 a0).bind F) := by
  simp only [r14_both_s0, cond_bind, within_bind, none_bind, some_bind, sum_bind, bind_bind]
def r14_both  : Option Zt2 :=
  r14_both_s0 (fun a0 => some a0)
def r14_Schema_s0 {R : Type} (which_0 : Int) (go0 : Int → Zt2 → Int → Zt16 → Zt16 → Option R) : Option R :=
  ((r14_both).bind fun r1 => (go0 which_0 r1 (0 : Int) ((0 : Int), (0 : Int), ([] : List Zt11), ()) ((IntKind.i64.wrap (which_0 + (1 : Int))), which_0, ([] : List Zt11), ())))
theorem r14_Schema_s0_bind {R S : Type} (F : R → Option S) (which_0 : Int) (go0 : Int → Zt2 → Int → Zt16 → Zt16 → Option R) : (r14_Schema_s0 which_0 go0).bind F = r14_Schema_s0 which_0 (fun a0 a1 a2 a3 a4 => (go0 a0 a1 a2 a3 a4).bind F) := by
  simp only [r14_Schema_s0, cond_bind, within_bind, none_bind, some_bind, sum_bind, bind_bind]
def r14_Schema_s1 {R : Type} (which_0 : Int) (t4 : Zt2) (t5 : Int) (bt2 : Zt16) (bt3 : Zt16) (nx0 : Int → Zt2 → Int → Zt16 → Zt16 → Option R) (ex0_0 : Zt16 → Zt16 → Option R) : Option R :=
  (bif (decide (t5 < ((List.length t4) : Int))) then (within t5 (List.length t4) (bif (decide ((0 : Int) ≤ (IntKind.i64.wrap ((5 : Int) + (IntKind.i64.wrap ((4 : Int) * which_0)))))) then (bif (decide ((IntKind.i64.wrap ((5 : Int) + (IntKind.i64.wrap ((4 : Int) * which_0)))) ≤ (((List.length (List.getD t4 (t5).toNat ([] : List Int))) : Nat) : Int))) then (bif (decide ((0 : Int) ≤ (IntKind.i64.wrap ((1 : Int) + (IntKind.i64.wrap ((4 : Int) * which_0)))))) then (bif (decide ((IntKind.i64.wrap ((1 : Int) + (IntKind.i64.wrap ((4 : Int) * which_0)))) ≤ ((((IntKind.i64.wrap ((5 : Int) + (IntKind.i64.wrap ((4 : Int) * which_0))))).toNat : Nat) : Int))) then (within (0 : Int) (List.length (List.drop ((IntKind.i64.wrap ((1 : Int) + (IntKind.i64.wrap ((4 : Int) * which_0))))).toNat (List.take ((IntKind.i64.wrap ((5 : Int) + (IntKind.i64.wrap ((4 : Int) * which_0))))).toNat (List.getD t4 (t5).toNat ([] : List Int))))) (bif (decide ((0 : Int) < (List.getD (List.drop ((IntKind.i64.wrap ((1 : Int) + (IntKind.i64.wrap ((4 : Int) * which_0))))).toNat (List.take ((IntKind.i64.wrap ((5 : Int) + (IntKind.i64.wrap ((4 : Int) * which_0))))).toNat (List.getD t4 (t5).toNat ([] : List Int)))) ((0 : Int)).toNat (0 : Int)))) then (within t5 (List.length t4) (within (0 : Int) (List.length (List.getD t4 (t5).toNat ([] : List Int))) (within (0 : Int) (List.length (List.drop ((IntKind.i64.wrap ((1 : Int) + (IntKind.i64.wrap ((4 : Int) * which_0))))).toNat (List.take ((IntKind.i64.wrap ((5 : Int) + (IntKind.i64.wrap ((4 : Int) * which_0))))).toNat (List.getD t4 (t5).toNat ([] : List Int))))) (within (1 : Int) (List.length (List.drop ((IntKind.i64.wrap ((1 : Int) + (IntKind.i64.wrap ((4 : Int) * which_0))))).toNat (List.take ((IntKind.i64.wrap ((5 : Int) + (IntKind.i64.wrap ((4 : Int) * which_0))))).toNat (List.getD t4 (t5).toNat ([] : List Int))))) (within (2 : Int) (List.length (List.drop ((IntKind.i64.wrap ((1 : Int) + (IntKind.i64.wrap ((4 : Int) * which_0))))).toNat (List.take ((IntKind.i64.wrap ((5 : Int) + (IntKind.i64.wrap ((4 : Int) * which_0))))).toNat (List.getD t4 (t5).toNat ([] : List Int))))) (within (3 : Int) (List.length (List.drop ((IntKind.i64.wrap ((1 : Int) + (IntKind.i64.wrap ((4 : Int) * which_0))))).toNat (List.take ((IntKind.i64.wrap ((5 : Int) + (IntKind.i64.wrap ((4 : Int) * which_0))))).toNat (List.getD t4 (t5).toNat ([] : List Int))))) (bif (decide (((List.length bt3.2.2.1) + (List.length ([((List.getD (List.getD t4 (t5).toNat ([] : List Int)) ((0 : Int)).toNat (0 : Int)), (List.getD (List.drop ((IntKind.i64.wrap ((1 : Int) + (IntKind.i64.wrap ((4 : Int) * which_0))))).toNat (List.take ((IntKind.i64.wrap ((5 : Int) + (IntKind.i64.wrap ((4 : Int) * which_0))))).toNat (List.getD t4 (t5).toNat ([] : List Int)))) ((0 : Int)).toNat (0 : Int)), (List.getD (List.drop ((IntKind.i64.wrap ((1 : Int) + (IntKind.i64.wrap ((4 : Int) * which_0))))).toNat (List.take ((IntKind.i64.wrap ((5 : Int) + (IntKind.i64.wrap ((4 : Int) * which_0))))).toNat (List.getD t4 (t5).toNat ([] : List Int)))) ((1 : Int)).toNat (0 : Int)), (List.getD (List.drop ((IntKind.i64.wrap ((1 : Int) + (IntKind.i64.wrap ((4 : Int) * which_0))))).toNat (List.take ((IntKind.i64.wrap ((5 : Int) + (IntKind.i64.wrap ((4 : Int) * which_0))))).toNat (List.getD t4 (t5).toNat ([] : List Int)))) ((2 : Int)).toNat (0 : Int)), (List.getD (List.drop ((IntKind.i64.wrap ((1 : Int) + (IntKind.i64.wrap ((4 : Int) * which_0))))).toNat (List.take ((IntKind.i64.wrap ((5 : Int) + (IntKind.i64.wrap ((4 : Int) * which_0))))).toNat (List.getD t4 (t5).toNat ([] : List Int)))) ((3 : Int)).toNat (0 : Int)), ())] : List Zt11))) * 40 ≤ 140737488355328)) then (nx0 which_0 t4 (IntKind.i64.wrap (t5 + (1 : Int))) bt2 (bt3.1, bt3.2.1, (bt3.2.2.1 ++ ([((List.getD (List.getD t4 (t5).toNat ([] : List Int)) ((0 : Int)).toNat (0 : Int)), (List.getD (List.drop ((IntKind.i64.wrap ((1 : Int) + (IntKind.i64.wrap ((4 : Int) * which_0))))).toNat (List.take ((IntKind.i64.wrap ((5 : Int) + (IntKind.i64.wrap ((4 : Int) * which_0))))).toNat (List.getD t4 (t5).toNat ([] : List Int)))) ((0 : Int)).toNat (0 : Int)), (List.getD (List.drop ((IntKind.i64.wrap ((1 : Int) + (IntKind.i64.wrap ((4 : Int) * which_0))))).toNat (List.take ((IntKind.i64.wrap ((5 : Int) + (IntKind.i64.wrap ((4 : Int) * which_0))))).toNat (List.getD t4 (t5).toNat ([] : List Int)))) ((1 : Int)).toNat (0 : Int)), (List.getD (List.drop ((IntKind.i64.wrap ((1 : Int) + (IntKind.i64.wrap ((4 : Int) * which_0))))).toNat (List.take ((IntKind.i64.wrap ((5 : Int) + (IntKind.i64.wrap ((4 : Int) * which_0))))).toNat (List.getD t4 (t5).toNat ([] : List Int)))) ((2 : Int)).toNat (0 : Int)), (List.getD (List.drop ((IntKind.i64.wrap ((1 : Int) + (IntKind.i64.wrap ((4 : Int) * which_0))))).toNat (List.take ((IntKind.i64.wrap ((5 : Int) + (IntKind.i64.wrap ((4 : Int) * which_0))))).toNat (List.getD t4 (t5).toNat ([] : List Int)))) ((3 : Int)).toNat (0 : Int)), ())] : List Zt11)), ())) else none))))))) else (nx0 which_0 t4 (IntKind.i64.wrap (t5 + (1 : Int))) bt2 bt3))) else none) else none) else none) else none)) else (ex0_0 bt2 bt3))
theorem r14_Schema_s1_bind {R S : Type} (F : R → Option S) (which_0 : Int) (t4 : Zt2) (t5 : Int) (bt2 : Zt16) (bt3 : Zt16) (nx0 : Int → Zt2 → Int → Zt16 → Zt16 → Option R) (ex0_0 : Zt16 → Zt16 → Option R) : (r14_Schema_s1 which_0 t4 t5 bt2 bt3 nx0 ex0_0).bind F = r14_Schema_s1 which_0 t4 t5 bt2 bt3 (fun a0 a1 a2 a3 a4 => (nx0 a0 a1 a2 a3 a4).bind F) (fun a0 a1 => (ex0_0 a0 a1).bind F) := by
  simp only [r14_Schema_s1, cond_bind, within_bind, none_bind, some_bind, sum_bind, bind_bind]
def r14_Schema_s2 {R : Type} (bt2 : Zt16) (bt3 : Zt16) (kr0 : Zt16 → Option R) : Option R :=
  (kr0 bt3)
theorem r14_Schema_s2_bind {R S : Type} (F : R → Option S) (bt2 : Zt16) (bt3 : Zt16) (kr0 : Zt16 → Option R) : (r14_Schema_s2 bt2 bt3 kr0).bind F = r14_Schema_s2 bt2 bt3 (fun a0 => (kr0 a0).bind F) := by
  simp only [r14_Schema_s2, cond_bind, within_bind, none_bind, some_bind, sum_bind, bind_bind]
def r14_Schema_l0 : Nat → Int → Zt2 → Int → Zt16 → Zt16 → Option (Zt16 × Zt16)
  | 0, _, _, _, _, _ => none
  | k + 1, v0, v1, v2, v3, v4 => r14_Schema_s1 v0 v1 v2 v3 v4 (fun a0 a1 a2 a3 a4 => r14_Schema_l0 k a0 a1 a2 a3 a4) (fun a0 a1 => some (a0, a1))
def r14_Schema (which_0 : Int) : Option Zt16 :=
  r14_Schema_s0 which_0 (fun a0 a1 a2 a3 a4 => (r14_Schema_l0 FUEL a0 a1 a2 a3 a4).bind fun e => r14_Schema_s2 e.1 e.2 (fun a0 => some a0))
def r14_Lossless_s0 {R : Type}  (kr0 : (List Int) → Option R) : Option R :=
  (kr0 ([(2 : Int), (3 : Int), (4 : Int), (7 : Int), (11 : Int), (12 : Int), (14 : Int), (23 : Int), (32 : Int), (35 : Int), (37 : Int), (38 : Int), (41 : Int), (42 : Int), (49 : Int), (52 : Int), (55 : Int), (64 : Int), (70 : Int), (102 : Int), (128 : Int)] : List Int))
theorem r14_Lossless_s0_bind {R S : Type} (F : R → Option S)  (kr0 : (List Int) → Option R) : (r14_Lossless_s0 kr0).bind F = r14_Lossless_s0 (fun a0 => (kr0 a0).bind F) := by
  simp only [r14_Lossless_s0, cond_bind, within_bind, none_bind, some_bind, sum_bind, bind_bind]
def r14_Lossless  : Option (List Int) :=
  r14_Lossless_s0 (fun a0 => some a0)
end Groat
set_option linter.unusedVariables false
set_option linter.unusedSimpArgs false
set_option maxRecDepth 100000
namespace Groat
open Go Go.Ref
def rule_Apply_s0 {R : Type} (r_0 : Zt18) (b_1 : Zt16) (text_2 : ByteArray) (kr0 : Zt6 → Int → Option R) : Option R :=
  (bif (decide (r_0.1 = (1 : Int))) then (kr0 (r_0.2.2.1, text_2, ()) (0 : Int)) else (bif (decide (r_0.1 = (2 : Int))) then (kr0 ((0 : Int), (bs []), ()) (0 : Int)) else (bif (decide (r_0.1 = (3 : Int))) then (kr0 (r_0.2.2.1, r_0.2.2.2.1, ()) (0 : Int)) else (bif (decide (r_0.1 = (4 : Int))) then ((schema_Find b_1 r_0.2.2.1).bind fun r1 => (bif (!r1.2) then (kr0 ((0 : Int), (bs []), ()) (9 : Int)) else ((digits_Pad text_2 r1.1.2.2.2.1).bind fun r2 => (bif (!r2.2) then (kr0 ((0 : Int), (bs []), ()) (5 : Int)) else (kr0 (r_0.2.2.1, r2.1, ()) (0 : Int)))))) else (bif (decide (r_0.1 = (5 : Int))) then ((codes_Apply r_0.2.2.2.2.1 text_2).bind fun r3 => (bif (!r3.2) then (kr0 ((0 : Int), (bs []), ()) (15 : Int)) else (kr0 (r_0.2.2.1, r3.1, ()) (0 : Int)))) else (kr0 ((0 : Int), (bs []), ()) (1 : Int)))))))
theorem rule_Apply_s0_bind {R S : Type} (F : R → Option S) (r_0 : Zt18) (b_1 : Zt16) (text_2 : ByteArray) (kr0 : Zt6 → Int → Option R) : (rule_Apply_s0 r_0 b_1 text_2 kr0).bind F = rule_Apply_s0 r_0 b_1 text_2 (fun a0 a1 => (kr0 a0 a1).bind F) := by
  simp only [rule_Apply_s0, cond_bind, within_bind, none_bind, some_bind, sum_bind, bind_bind]
def rule_Apply (r_0 : Zt18) (b_1 : Zt16) (text_2 : ByteArray) : Option (Zt6 × Int) :=
  rule_Apply_s0 r_0 b_1 text_2 (fun a0 a1 => some (a0, a1))
def rule_ends_s0 {R : Type} (r_0 : Zt18) (a_1 : Zt16) (b_2 : Zt16) (kr0 : Zt11 → Zt11 → Int → Option R) : Option R :=
  ((schema_Find a_1 r_0.2.1).bind fun r1 => ((schema_Find b_2 r_0.2.2.1).bind fun r2 => (bif (decide (r_0.1 = (3 : Int))) then (bif (decide (r_0.1 = (2 : Int))) then (bif (!(decide (r_0.2.1 = (0 : Int)))) then (kr0 r1.1 r2.1 (9 : Int)) else (bif (!(decide (r_0.2.2.1 = (0 : Int)))) then (kr0 r1.1 r2.1 (9 : Int)) else (kr0 r1.1 r2.1 (0 : Int)))) else (bif (!(decide (r_0.2.1 = (0 : Int)))) then (kr0 r1.1 r2.1 (9 : Int)) else (bif (!r2.2) then (kr0 r1.1 r2.1 (9 : Int)) else (kr0 r1.1 r2.1 (0 : Int))))) else (bif (decide (r_0.1 = (2 : Int))) then (bif (!r1.2) then (kr0 r1.1 r2.1 (9 : Int)) else (bif (!(decide (r_0.2.2.1 = (0 : Int)))) then (kr0 r1.1 r2.1 (9 : Int)) else (kr0 r1.1 r2.1 (0 : Int)))) else (bif (!r1.2) then (kr0 r1.1 r2.1 (9 : Int)) else (bif (!r2.2) then (kr0 r1.1 r2.1 (9 : Int)) else (kr0 r1.1 r2.1 (0 : Int))))))))
theorem rule_ends_s0_bind {R S : Type} (F : R → Option S) (r_0 : Zt18) (a_1 : Zt16) (b_2 : Zt16) (kr0 : Zt11 → Zt11 → Int → Option R) : (rule_ends_s0 r_0 a_1 b_2 kr0).bind F = rule_ends_s0 r_0 a_1 b_2 (fun a0 a1 a2 => (kr0 a0 a1 a2).bind F) := by
  simp only [rule_ends_s0, cond_bind, within_bind, none_bind, some_bind, sum_bind, bind_bind]
def rule_ends (r_0 : Zt18) (a_1 : Zt16) (b_2 : Zt16) : Option (Zt11 × Zt11 × Int) :=
  rule_ends_s0 r_0 a_1 b_2 (fun a0 a1 a2 => some (a0, a1, a2))
def rule_padded_s0 {R : Type} (s_0 : Zt11) (kr0 : Bool → Option R) : Option R :=
  (bif (decide (s_0.2.1 = (1 : Int))) then (kr0 (decide (s_0.2.2.1 = (1 : Int)))) else (kr0 false))
theorem rule_padded_s0_bind {R S : Type} (F : R → Option S) (s_0 : Zt11) (kr0 : Bool → Option R) : (rule_padded_s0 s_0 kr0).bind F = rule_padded_s0 s_0 (fun a0 => (kr0 a0).bind F) := by
  simp only [rule_padded_s0, cond_bind, within_bind, none_bind, some_bind, sum_bind, bind_bind]
def rule_padded (s_0 : Zt11) : Option Bool :=
  rule_padded_s0 s_0 (fun a0 => some a0)
def rule_table_s0 {R : Type} (l_0 : Zt12) (from_1 : Zt11) (to_2 : Zt11) (kr0 : Int → Option R) (go0 : Zt12 → Int → Int → Zt11 → Zt11 → Option R) : Option R :=
  ((codes_Check l_0).bind fun r1 => (bif (!(decide (r1.1 = (0 : Int)))) then (kr0 (15 : Int)) else (bif (decide (((List.length l_0) : Int) = (0 : Int))) then (kr0 (15 : Int)) else (go0 l_0 ((List.length l_0) : Int) (0 : Int) from_1 to_2))))
theorem rule_table_s0_bind {R S : Type} (F : R → Option S) (l_0 : Zt12) (from_1 : Zt11) (to_2 : Zt11) (kr0 : Int → Option R) (go0 : Zt12 → Int → Int → Zt11 → Zt11 → Option R) : (rule_table_s0 l_0 from_1 to_2 kr0 go0).bind F = rule_table_s0 l_0 from_1 to_2 (fun a0 => (kr0 a0).bind F) (fun a0 a1 a2 a3 a4 => (go0 a0 a1 a2 a3 a4).bind F) := by
  simp only [rule_table_s0, cond_bind, within_bind, none_bind, some_bind, sum_bind, bind_bind]
def rule_table_s1 {R : Type} (t25 : Zt12) (t26 : Int) (t27 : Int) (bt4 : Zt11) (bt5 : Zt11) (ex0_0 : Int → Option R) (nx0 : Zt12 → Int → Int → Zt11 → Zt11 → Option R) (ex0_1 : Option R) : Option R :=
  (bif (decide (t27 < t26)) then (within t27 (List.length t25) ((spec_Value bt4 (List.getD t25 (t27).toNat ((bs []), (bs []), ())).1).bind fun r2 => (bif (!(decide (r2 = (0 : Int)))) then (ex0_0 r2) else ((spec_Value bt5 (List.getD t25 (t27).toNat ((bs []), (bs []), ())).2.1).bind fun r3 => (bif (!(decide (r3 = (0 : Int)))) then (ex0_0 r3) else (nx0 t25 t26 (IntKind.i64.wrap (t27 + (1 : Int))) bt4 bt5)))))) else (ex0_1))
theorem rule_table_s1_bind {R S : Type} (F : R → Option S) (t25 : Zt12) (t26 : Int) (t27 : Int) (bt4 : Zt11) (bt5 : Zt11) (ex0_0 : Int → Option R) (nx0 : Zt12 → Int → Int → Zt11 → Zt11 → Option R) (ex0_1 : Option R) : (rule_table_s1 t25 t26 t27 bt4 bt5 ex0_0 nx0 ex0_1).bind F = rule_table_s1 t25 t26 t27 bt4 bt5 (fun a0 => (ex0_0 a0).bind F) (fun a0 a1 a2 a3 a4 => (nx0 a0 a1 a2 a3 a4).bind F) ((ex0_1).bind F) := by
  simp only [rule_table_s1, cond_bind, within_bind, none_bind, some_bind, sum_bind, bind_bind]
def rule_table_s2 {R : Type} (t6 : Int) (kr0 : Int → Option R) : Option R :=
  (kr0 t6)
theorem rule_table_s2_bind {R S : Type} (F : R → Option S) (t6 : Int) (kr0 : Int → Option R) : (rule_table_s2 t6 kr0).bind F = rule_table_s2 t6 (fun a0 => (kr0 a0).bind F) := by
  simp only [rule_table_s2, cond_bind, within_bind, none_bind, some_bind, sum_bind, bind_bind]
def rule_table_s3 {R : Type}  (kr0 : Int → Option R) : Option R :=
  (kr0 (0 : Int))
theorem rule_table_s3_bind {R S : Type} (F : R → Option S)  (kr0 : Int → Option R) : (rule_table_s3 kr0).bind F = rule_table_s3 (fun a0 => (kr0 a0).bind F) := by
  simp only [rule_table_s3, cond_bind, within_bind, none_bind, some_bind, sum_bind, bind_bind]
def rule_table_l0 : Nat → Zt12 → Int → Int → Zt11 → Zt11 → Option (Sum Int Unit)
  | 0, _, _, _, _, _ => none
  | k + 1, v0, v1, v2, v3, v4 => rule_table_s1 v0 v1 v2 v3 v4 (fun a0 => some (.inl a0)) (fun a0 a1 a2 a3 a4 => rule_table_l0 k a0 a1 a2 a3 a4) (some (.inr ()))
def rule_table (l_0 : Zt12) (from_1 : Zt11) (to_2 : Zt11) : Option Int :=
  rule_table_s0 l_0 from_1 to_2 (fun a0 => some a0) (fun a0 a1 a2 a3 a4 => (rule_table_l0 FUEL a0 a1 a2 a3 a4).bind fun e => (Sum.elim (fun (we : Int) => rule_table_s2 we (fun a0 => some a0)) (fun (we : Unit) => rule_table_s3 (fun a0 => some a0)) e))
def rule_Check_s0 {R : Type} (r_0 : Zt18) (a_1 : Zt16) (b_2 : Zt16) (kr0 : Int → Option R) : Option R :=
  (bif (decide (r_0.1 < (1 : Int))) then (kr0 (1 : Int)) else (bif (decide ((5 : Int) < r_0.1)) then (kr0 (1 : Int)) else ((rule_ends r_0 a_1 b_2).bind fun r1 => (bif (!(decide (r1.2.2 = (0 : Int)))) then (kr0 r1.2.2) else (bif (!(decide (r_0.2.2.2.1 = (bs [])))) then (bif (!(decide (r_0.1 = (3 : Int)))) then (kr0 (3 : Int)) else (bif (decide ((0 : Int) < ((List.length r_0.2.2.2.2.1) : Int))) then (bif (!(decide (r_0.1 = (5 : Int)))) then (kr0 (3 : Int)) else (bif (decide (r_0.1 = (1 : Int))) then ((spec_Wider r1.2.1 r1.1).bind fun r2 => (bif (!r2) then (kr0 (6 : Int)) else (kr0 (0 : Int)))) else (bif (decide (r_0.1 = (3 : Int))) then ((spec_Value r1.2.1 r_0.2.2.2.1).bind fun r3 => (kr0 r3)) else (bif (decide (r_0.1 = (4 : Int))) then ((rule_padded r1.1).bind fun r4 => (bif (!r4) then (kr0 (6 : Int)) else ((rule_padded r1.2.1).bind fun r5 => (bif (!r5) then (kr0 (6 : Int)) else (kr0 (0 : Int)))))) else (bif (decide (r_0.1 = (5 : Int))) then ((rule_table r_0.2.2.2.2.1 r1.1 r1.2.1).bind fun r6 => (kr0 r6)) else (kr0 (0 : Int))))))) else (bif (decide (r_0.1 = (1 : Int))) then ((spec_Wider r1.2.1 r1.1).bind fun r7 => (bif (!r7) then (kr0 (6 : Int)) else (kr0 (0 : Int)))) else (bif (decide (r_0.1 = (3 : Int))) then ((spec_Value r1.2.1 r_0.2.2.2.1).bind fun r8 => (kr0 r8)) else (bif (decide (r_0.1 = (4 : Int))) then ((rule_padded r1.1).bind fun r9 => (bif (!r9) then (kr0 (6 : Int)) else ((rule_padded r1.2.1).bind fun r10 => (bif (!r10) then (kr0 (6 : Int)) else (kr0 (0 : Int)))))) else (bif (decide (r_0.1 = (5 : Int))) then ((rule_table r_0.2.2.2.2.1 r1.1 r1.2.1).bind fun r11 => (kr0 r11)) else (kr0 (0 : Int)))))))) else (bif (decide ((0 : Int) < ((List.length r_0.2.2.2.2.1) : Int))) then (bif (!(decide (r_0.1 = (5 : Int)))) then (kr0 (3 : Int)) else (bif (decide (r_0.1 = (1 : Int))) then ((spec_Wider r1.2.1 r1.1).bind fun r12 => (bif (!r12) then (kr0 (6 : Int)) else (kr0 (0 : Int)))) else (bif (decide (r_0.1 = (3 : Int))) then ((spec_Value r1.2.1 r_0.2.2.2.1).bind fun r13 => (kr0 r13)) else (bif (decide (r_0.1 = (4 : Int))) then ((rule_padded r1.1).bind fun r14 => (bif (!r14) then (kr0 (6 : Int)) else ((rule_padded r1.2.1).bind fun r15 => (bif (!r15) then (kr0 (6 : Int)) else (kr0 (0 : Int)))))) else (bif (decide (r_0.1 = (5 : Int))) then ((rule_table r_0.2.2.2.2.1 r1.1 r1.2.1).bind fun r16 => (kr0 r16)) else (kr0 (0 : Int))))))) else (bif (decide (r_0.1 = (1 : Int))) then ((spec_Wider r1.2.1 r1.1).bind fun r17 => (bif (!r17) then (kr0 (6 : Int)) else (kr0 (0 : Int)))) else (bif (decide (r_0.1 = (3 : Int))) then ((spec_Value r1.2.1 r_0.2.2.2.1).bind fun r18 => (kr0 r18)) else (bif (decide (r_0.1 = (4 : Int))) then ((rule_padded r1.1).bind fun r19 => (bif (!r19) then (kr0 (6 : Int)) else ((rule_padded r1.2.1).bind fun r20 => (bif (!r20) then (kr0 (6 : Int)) else (kr0 (0 : Int)))))) else (bif (decide (r_0.1 = (5 : Int))) then ((rule_table r_0.2.2.2.2.1 r1.1 r1.2.1).bind fun r21 => (kr0 r21)) else (kr0 (0 : Int))))))))))))
theorem rule_Check_s0_bind {R S : Type} (F : R → Option S) (r_0 : Zt18) (a_1 : Zt16) (b_2 : Zt16) (kr0 : Int → Option R) : (rule_Check_s0 r_0 a_1 b_2 kr0).bind F = rule_Check_s0 r_0 a_1 b_2 (fun a0 => (kr0 a0).bind F) := by
  simp only [rule_Check_s0, cond_bind, within_bind, none_bind, some_bind, sum_bind, bind_bind]
def rule_Check (r_0 : Zt18) (a_1 : Zt16) (b_2 : Zt16) : Option Int :=
  rule_Check_s0 r_0 a_1 b_2 (fun a0 => some a0)
end Groat
set_option linter.unusedVariables false
set_option linter.unusedSimpArgs false
set_option maxRecDepth 100000
namespace Groat
open Go Go.Ref
def r04_Is_s0 {R : Type} (class_0 : Int) (b_1 : Int) (kr0 : Bool → Option R) : Option R :=
  (bif (decide ((48 : Int) ≤ b_1)) then (bif (decide ((65 : Int) ≤ b_1)) then (bif (decide (b_1 ≤ (90 : Int))) then (bif (decide (class_0 = (1 : Int))) then (kr0 (decide (b_1 ≤ (57 : Int)))) else (bif (decide (class_0 = (2 : Int))) then (kr0 true) else (bif (decide (class_0 = (3 : Int))) then (bif (decide (b_1 ≤ (57 : Int))) then (kr0 true) else (kr0 true)) else (bif (decide (class_0 = (4 : Int))) then (bif (decide ((32 : Int) ≤ b_1)) then (kr0 (decide (b_1 ≤ (126 : Int)))) else (kr0 false)) else (bif (decide (class_0 = (5 : Int))) then (kr0 true) else (kr0 (decide (class_0 = (6 : Int))))))))) else (bif (decide ((97 : Int) ≤ b_1)) then (bif (decide (class_0 = (1 : Int))) then (kr0 (decide (b_1 ≤ (57 : Int)))) else (bif (decide (class_0 = (2 : Int))) then (kr0 (decide (b_1 ≤ (122 : Int)))) else (bif (decide (class_0 = (3 : Int))) then (bif (decide (b_1 ≤ (57 : Int))) then (kr0 true) else (kr0 (decide (b_1 ≤ (122 : Int))))) else (bif (decide (class_0 = (4 : Int))) then (bif (decide ((32 : Int) ≤ b_1)) then (kr0 (decide (b_1 ≤ (126 : Int)))) else (kr0 false)) else (bif (decide (class_0 = (5 : Int))) then (kr0 true) else (kr0 (decide (class_0 = (6 : Int))))))))) else (bif (decide (class_0 = (1 : Int))) then (kr0 (decide (b_1 ≤ (57 : Int)))) else (bif (decide (class_0 = (2 : Int))) then (kr0 false) else (bif (decide (class_0 = (3 : Int))) then (bif (decide (b_1 ≤ (57 : Int))) then (kr0 true) else (kr0 false)) else (bif (decide (class_0 = (4 : Int))) then (bif (decide ((32 : Int) ≤ b_1)) then (kr0 (decide (b_1 ≤ (126 : Int)))) else (kr0 false)) else (bif (decide (class_0 = (5 : Int))) then (kr0 true) else (kr0 (decide (class_0 = (6 : Int))))))))))) else (bif (decide ((97 : Int) ≤ b_1)) then (bif (decide (class_0 = (1 : Int))) then (kr0 (decide (b_1 ≤ (57 : Int)))) else (bif (decide (class_0 = (2 : Int))) then (kr0 (decide (b_1 ≤ (122 : Int)))) else (bif (decide (class_0 = (3 : Int))) then (bif (decide (b_1 ≤ (57 : Int))) then (kr0 true) else (kr0 (decide (b_1 ≤ (122 : Int))))) else (bif (decide (class_0 = (4 : Int))) then (bif (decide ((32 : Int) ≤ b_1)) then (kr0 (decide (b_1 ≤ (126 : Int)))) else (kr0 false)) else (bif (decide (class_0 = (5 : Int))) then (kr0 true) else (kr0 (decide (class_0 = (6 : Int))))))))) else (bif (decide (class_0 = (1 : Int))) then (kr0 (decide (b_1 ≤ (57 : Int)))) else (bif (decide (class_0 = (2 : Int))) then (kr0 false) else (bif (decide (class_0 = (3 : Int))) then (bif (decide (b_1 ≤ (57 : Int))) then (kr0 true) else (kr0 false)) else (bif (decide (class_0 = (4 : Int))) then (bif (decide ((32 : Int) ≤ b_1)) then (kr0 (decide (b_1 ≤ (126 : Int)))) else (kr0 false)) else (bif (decide (class_0 = (5 : Int))) then (kr0 true) else (kr0 (decide (class_0 = (6 : Int))))))))))) else (bif (decide ((65 : Int) ≤ b_1)) then (bif (decide (b_1 ≤ (90 : Int))) then (bif (decide (class_0 = (1 : Int))) then (kr0 false) else (bif (decide (class_0 = (2 : Int))) then (kr0 true) else (bif (decide (class_0 = (3 : Int))) then (kr0 true) else (bif (decide (class_0 = (4 : Int))) then (bif (decide ((32 : Int) ≤ b_1)) then (kr0 (decide (b_1 ≤ (126 : Int)))) else (kr0 false)) else (bif (decide (class_0 = (5 : Int))) then (kr0 true) else (kr0 (decide (class_0 = (6 : Int))))))))) else (bif (decide ((97 : Int) ≤ b_1)) then (bif (decide (class_0 = (1 : Int))) then (kr0 false) else (bif (decide (class_0 = (2 : Int))) then (kr0 (decide (b_1 ≤ (122 : Int)))) else (bif (decide (class_0 = (3 : Int))) then (kr0 (decide (b_1 ≤ (122 : Int)))) else (bif (decide (class_0 = (4 : Int))) then (bif (decide ((32 : Int) ≤ b_1)) then (kr0 (decide (b_1 ≤ (126 : Int)))) else (kr0 false)) else (bif (decide (class_0 = (5 : Int))) then (kr0 true) else (kr0 (decide (class_0 = (6 : Int))))))))) else (bif (decide (class_0 = (1 : Int))) then (kr0 false) else (bif (decide (class_0 = (2 : Int))) then (kr0 false) else (bif (decide (class_0 = (3 : Int))) then (kr0 false) else (bif (decide (class_0 = (4 : Int))) then (bif (decide ((32 : Int) ≤ b_1)) then (kr0 (decide (b_1 ≤ (126 : Int)))) else (kr0 false)) else (bif (decide (class_0 = (5 : Int))) then (kr0 true) else (kr0 (decide (class_0 = (6 : Int))))))))))) else (bif (decide ((97 : Int) ≤ b_1)) then (bif (decide (class_0 = (1 : Int))) then (kr0 false) else (bif (decide (class_0 = (2 : Int))) then (kr0 (decide (b_1 ≤ (122 : Int)))) else (bif (decide (class_0 = (3 : Int))) then (kr0 (decide (b_1 ≤ (122 : Int)))) else (bif (decide (class_0 = (4 : Int))) then (bif (decide ((32 : Int) ≤ b_1)) then (kr0 (decide (b_1 ≤ (126 : Int)))) else (kr0 false)) else (bif (decide (class_0 = (5 : Int))) then (kr0 true) else (kr0 (decide (class_0 = (6 : Int))))))))) else (bif (decide (class_0 = (1 : Int))) then (kr0 false) else (bif (decide (class_0 = (2 : Int))) then (kr0 false) else (bif (decide (class_0 = (3 : Int))) then (kr0 false) else (bif (decide (class_0 = (4 : Int))) then (bif (decide ((32 : Int) ≤ b_1)) then (kr0 (decide (b_1 ≤ (126 : Int)))) else (kr0 false)) else (bif (decide (class_0 = (5 : Int))) then (kr0 true) else (kr0 (decide (class_0 = (6 : Int))))))))))))
def r04_Is (class_0 : Int) (b_1 : Int) : Option Bool :=
  r04_Is_s0 class_0 b_1 (fun a0 => some a0)
def r04_Wider_s0 {R : Type} (a_0 : Int) (b_1 : Int) (kr0 : Bool → Option R) (go0 : Int → Int → Int → Option R) : Option R :=
  (bif (decide (a_0 < (1 : Int))) then (kr0 false) else (bif (decide ((6 : Int) < a_0)) then (kr0 false) else (bif (decide (b_1 < (1 : Int))) then (kr0 false) else (bif (decide ((6 : Int) < b_1)) then (kr0 false) else (go0 a_0 b_1 (0 : Int))))))
def r04_Wider_s1 {R : Type} (a_0 : Int) (b_1 : Int) (t5 : Int) (ex0_0 : Bool → Option R) (nx0 : Int → Int → Int → Option R) (ex0_1 : Option R) : Option R :=
  (bif (decide (t5 < (256 : Int))) then ((r04_Is b_1 (IntKind.u8.wrap t5)).bind fun r1 => (bif r1 then ((r04_Is a_0 (IntKind.u8.wrap t5)).bind fun r2 => (bif (!r2) then (ex0_0 false) else (nx0 a_0 b_1 (IntKind.i64.wrap (t5 + (1 : Int)))))) else (nx0 a_0 b_1 (IntKind.i64.wrap (t5 + (1 : Int)))))) else (ex0_1))
def r04_Wider_s2 {R : Type} (t4 : Bool) (kr0 : Bool → Option R) : Option R :=
  (kr0 t4)
def r04_Wider_s3 {R : Type}  (kr0 : Bool → Option R) : Option R :=
  (kr0 true)
def r04_Wider_l0 : Nat → Int → Int → Int → Option (Sum Bool Unit)
  | 0, _, _, _ => none
  | k + 1, v0, v1, v2 => r04_Wider_s1 v0 v1 v2 (fun a0 => some (.inl a0)) (fun a0 a1 a2 => r04_Wider_l0 k a0 a1 a2) (some (.inr ()))
def r04_Wider (a_0 : Int) (b_1 : Int) : Option Bool :=
  r04_Wider_s0 a_0 b_1 (fun a0 => some a0) (fun a0 a1 a2 => (r04_Wider_l0 FUEL a0 a1 a2).bind fun e => (Sum.elim (fun (we : Bool) => r04_Wider_s2 we (fun a0 => some a0)) (fun (we : Unit) => r04_Wider_s3 (fun a0 => some a0)) e))
def r04_First_s0 {R : Type} (class_0 : Int) (s_1 : ByteArray) (go0 : Int → ByteArray → Int → Option R) : Option R :=
  (go0 class_0 s_1 (0 : Int))
def r04_First_s1 {R : Type} (class_0 : Int) (s_1 : ByteArray) (t5 : Int) (ex0_0 : Int → Option R) (nx0 : Int → ByteArray → Int → Option R) (ex0_1 : Option R) : Option R :=
  (bif (decide (t5 < ((s_1).size : Int))) then (within t5 (s_1).size ((r04_Is class_0 (byteAt s_1 (t5).toNat)).bind fun r1 => (bif (!r1) then (ex0_0 t5) else (nx0 class_0 s_1 (IntKind.i64.wrap (t5 + (1 : Int))))))) else (ex0_1))
def r04_First_s2 {R : Type} (t4 : Int) (kr0 : Int → Option R) : Option R :=
  (kr0 t4)
def r04_First_s3 {R : Type}  (kr0 : Int → Option R) : Option R :=
  (kr0 (-1 : Int))
def r04_First_l0 : Nat → Int → ByteArray → Int → Option (Sum Int Unit)
  | 0, _, _, _ => none
  | k + 1, v0, v1, v2 => r04_First_s1 v0 v1 v2 (fun a0 => some (.inl a0)) (fun a0 a1 a2 => r04_First_l0 k a0 a1 a2) (some (.inr ()))
def r04_First (class_0 : Int) (s_1 : ByteArray) : Option Int :=
  r04_First_s0 class_0 s_1 (fun a0 a1 a2 => (r04_First_l0 FUEL a0 a1 a2).bind fun e => (Sum.elim (fun (we : Int) => r04_First_s2 we (fun a0 => some a0)) (fun (we : Unit) => r04_First_s3 (fun a0 => some a0)) e))
end Groat
set_option linter.unusedVariables false
set_option linter.unusedSimpArgs false
set_option maxRecDepth 100000
namespace Groat
open Go Go.Ref
def r08_First_s0 {R : Type} (b_0 : Int) (kr0 : Int → Option R) : Option R :=
  (bif (decide (b_0 = (0 : Int))) then (kr0 (0 : Int)) else (bif (decide ((Int.tmod (IntKind.u8.wrap (Int.tdiv b_0 (32 : Int))) (2 : Int)) = (1 : Int))) then (kr0 (0 : Int)) else (bif (decide ((Int.tmod b_0 (32 : Int)) = (31 : Int))) then (kr0 (2 : Int)) else (kr0 (1 : Int)))))
def r08_First (b_0 : Int) : Option Int :=
  r08_First_s0 b_0 (fun a0 => some a0)
def r08_Get_s0 {R : Type} (b_0 : ByteArray) (at_1 : Int) (kr0 : Int → Int → Int → Option R) : Option R :=
  (bif (decide (at_1 < (0 : Int))) then (kr0 (0 : Int) (0 : Int) (1 : Int)) else (bif (decide (((b_0).size : Int) < at_1)) then (kr0 (0 : Int) (0 : Int) (1 : Int)) else (bif (decide (at_1 = ((b_0).size : Int))) then (kr0 (0 : Int) (0 : Int) (2 : Int)) else (within at_1 (b_0).size ((r08_First (byteAt b_0 (at_1).toNat)).bind fun r1 => (bif (decide (r1 = (0 : Int))) then (kr0 (0 : Int) (0 : Int) (13 : Int)) else (bif (decide (r1 = (1 : Int))) then (within at_1 (b_0).size (kr0 (IntKind.i64.wrap (byteAt b_0 (at_1).toNat)) (IntKind.i64.wrap (at_1 + (1 : Int))) (0 : Int))) else (bif (decide ((IntKind.i64.wrap (((b_0).size : Int) - at_1)) < (2 : Int))) then (kr0 (0 : Int) (0 : Int) (2 : Int)) else (within (IntKind.i64.wrap (at_1 + (1 : Int))) (b_0).size (bif (decide ((byteAt b_0 ((IntKind.i64.wrap (at_1 + (1 : Int)))).toNat) = (0 : Int))) then (kr0 (0 : Int) (0 : Int) (13 : Int)) else (within (IntKind.i64.wrap (at_1 + (1 : Int))) (b_0).size (bif (decide ((127 : Int) < (byteAt b_0 ((IntKind.i64.wrap (at_1 + (1 : Int)))).toNat))) then (kr0 (0 : Int) (0 : Int) (13 : Int)) else (within at_1 (b_0).size (within (IntKind.i64.wrap (at_1 + (1 : Int))) (b_0).size (kr0 (IntKind.i64.wrap ((IntKind.i64.wrap ((256 : Int) * (IntKind.i64.wrap (byteAt b_0 (at_1).toNat)))) + (IntKind.i64.wrap (byteAt b_0 ((IntKind.i64.wrap (at_1 + (1 : Int)))).toNat)))) (IntKind.i64.wrap (at_1 + (2 : Int))) (0 : Int))))))))))))))))
def r08_Get (b_0 : ByteArray) (at_1 : Int) : Option Zt0 :=
  r08_Get_s0 b_0 at_1 (fun a0 a1 a2 => some (a0, a1, a2))
end Groat
set_option linter.unusedVariables false
set_option linter.unusedSimpArgs false
set_option maxRecDepth 100000
namespace Groat
open Go Go.Ref
def r09_Get_s0 {R : Type} (b_0 : ByteArray) (at_1 : Int) (kr0 : Int → Int → Int → Option R) : Option R :=
  (bif (decide (at_1 < (0 : Int))) then (kr0 (0 : Int) (0 : Int) (1 : Int)) else (bif (decide (((b_0).size : Int) < at_1)) then (kr0 (0 : Int) (0 : Int) (1 : Int)) else (bif (decide (at_1 = ((b_0).size : Int))) then (kr0 (0 : Int) (0 : Int) (2 : Int)) else (within at_1 (b_0).size (bif (decide ((IntKind.i64.wrap (byteAt b_0 (at_1).toNat)) < (128 : Int))) then (kr0 (IntKind.i64.wrap (byteAt b_0 (at_1).toNat)) (IntKind.i64.wrap (at_1 + (1 : Int))) (0 : Int)) else (bif (!(decide ((IntKind.i64.wrap (byteAt b_0 (at_1).toNat)) = (129 : Int)))) then (bif (!(decide ((IntKind.i64.wrap (byteAt b_0 (at_1).toNat)) = (130 : Int)))) then (kr0 (0 : Int) (0 : Int) (14 : Int)) else (bif (decide ((IntKind.i64.wrap (((b_0).size : Int) - at_1)) < (IntKind.i64.wrap ((IntKind.i64.wrap (byteAt b_0 (at_1).toNat)) - (127 : Int))))) then (kr0 (0 : Int) (0 : Int) (2 : Int)) else (bif (decide ((IntKind.i64.wrap (byteAt b_0 (at_1).toNat)) = (129 : Int))) then (within (IntKind.i64.wrap (at_1 + (1 : Int))) (b_0).size (bif (decide ((byteAt b_0 ((IntKind.i64.wrap (at_1 + (1 : Int)))).toNat) < (128 : Int))) then (kr0 (0 : Int) (0 : Int) (14 : Int)) else (within (IntKind.i64.wrap (at_1 + (1 : Int))) (b_0).size (kr0 (IntKind.i64.wrap (byteAt b_0 ((IntKind.i64.wrap (at_1 + (1 : Int)))).toNat)) (IntKind.i64.wrap (at_1 + (2 : Int))) (0 : Int))))) else (within (IntKind.i64.wrap (at_1 + (1 : Int))) (b_0).size (bif (decide ((byteAt b_0 ((IntKind.i64.wrap (at_1 + (1 : Int)))).toNat) = (0 : Int))) then (kr0 (0 : Int) (0 : Int) (14 : Int)) else (within (IntKind.i64.wrap (at_1 + (1 : Int))) (b_0).size (within (IntKind.i64.wrap (at_1 + (2 : Int))) (b_0).size (kr0 (IntKind.i64.wrap ((IntKind.i64.wrap ((256 : Int) * (IntKind.i64.wrap (byteAt b_0 ((IntKind.i64.wrap (at_1 + (1 : Int)))).toNat)))) + (IntKind.i64.wrap (byteAt b_0 ((IntKind.i64.wrap (at_1 + (2 : Int)))).toNat)))) (IntKind.i64.wrap (at_1 + (3 : Int))) (0 : Int))))))))) else (bif (decide ((IntKind.i64.wrap (((b_0).size : Int) - at_1)) < (IntKind.i64.wrap ((IntKind.i64.wrap (byteAt b_0 (at_1).toNat)) - (127 : Int))))) then (kr0 (0 : Int) (0 : Int) (2 : Int)) else (bif (decide ((IntKind.i64.wrap (byteAt b_0 (at_1).toNat)) = (129 : Int))) then (within (IntKind.i64.wrap (at_1 + (1 : Int))) (b_0).size (bif (decide ((byteAt b_0 ((IntKind.i64.wrap (at_1 + (1 : Int)))).toNat) < (128 : Int))) then (kr0 (0 : Int) (0 : Int) (14 : Int)) else (within (IntKind.i64.wrap (at_1 + (1 : Int))) (b_0).size (kr0 (IntKind.i64.wrap (byteAt b_0 ((IntKind.i64.wrap (at_1 + (1 : Int)))).toNat)) (IntKind.i64.wrap (at_1 + (2 : Int))) (0 : Int))))) else (within (IntKind.i64.wrap (at_1 + (1 : Int))) (b_0).size (bif (decide ((byteAt b_0 ((IntKind.i64.wrap (at_1 + (1 : Int)))).toNat) = (0 : Int))) then (kr0 (0 : Int) (0 : Int) (14 : Int)) else (within (IntKind.i64.wrap (at_1 + (1 : Int))) (b_0).size (within (IntKind.i64.wrap (at_1 + (2 : Int))) (b_0).size (kr0 (IntKind.i64.wrap ((IntKind.i64.wrap ((256 : Int) * (IntKind.i64.wrap (byteAt b_0 ((IntKind.i64.wrap (at_1 + (1 : Int)))).toNat)))) + (IntKind.i64.wrap (byteAt b_0 ((IntKind.i64.wrap (at_1 + (2 : Int)))).toNat)))) (IntKind.i64.wrap (at_1 + (3 : Int))) (0 : Int))))))))))))))
def r09_Get (b_0 : ByteArray) (at_1 : Int) : Option Zt0 :=
  r09_Get_s0 b_0 at_1 (fun a0 a1 a2 => some (a0, a1, a2))
end Groat
set_option linter.unusedVariables false
set_option linter.unusedSimpArgs false
set_option maxRecDepth 100000
namespace Groat
open Go Go.Ref
def r10_has_s0 {R : Type} (l_0 : Zt9) (n_1 : Int) (tag_2 : Int) (go0 : Zt9 → Int → Int → Int → Option R) : Option R :=
  (go0 l_0 n_1 tag_2 (0 : Int))
def r10_has_s1 {R : Type} (l_0 : Zt9) (n_1 : Int) (tag_2 : Int) (t7 : Int) (ex0_0 : Bool → Option R) (nx0 : Zt9 → Int → Int → Int → Option R) (ex0_1 : Option R) : Option R :=
  (bif (decide (t7 < n_1)) then (within t7 (List.length l_0) (bif (decide ((List.getD l_0 (t7).toNat ((0 : Int), (bs []), ())).1 = tag_2)) then (ex0_0 true) else (nx0 l_0 n_1 tag_2 (IntKind.i64.wrap (t7 + (1 : Int)))))) else (ex0_1))
def r10_has_s2 {R : Type} (t6 : Bool) (kr0 : Bool → Option R) : Option R :=
  (kr0 t6)
def r10_has_s3 {R : Type}  (kr0 : Bool → Option R) : Option R :=
  (kr0 false)
def r10_has_l0 : Nat → Zt9 → Int → Int → Int → Option (Sum Bool Unit)
  | 0, _, _, _, _ => none
  | k + 1, v0, v1, v2, v3 => r10_has_s1 v0 v1 v2 v3 (fun a0 => some (.inl a0)) (fun a0 a1 a2 a3 => r10_has_l0 k a0 a1 a2 a3) (some (.inr ()))
def r10_has (l_0 : Zt9) (n_1 : Int) (tag_2 : Int) : Option Bool :=
  r10_has_s0 l_0 n_1 tag_2 (fun a0 a1 a2 a3 => (r10_has_l0 FUEL a0 a1 a2 a3).bind fun e => (Sum.elim (fun (we : Bool) => r10_has_s2 we (fun a0 => some a0)) (fun (we : Unit) => r10_has_s3 (fun a0 => some a0)) e))
def r10_Get_s0 {R : Type} (b_0 : ByteArray) (go0 : ByteArray → Zt9 → Int → Option R) : Option R :=
  (go0 b_0 ([] : List Zt6) (0 : Int))
def r10_Get_s1 {R : Type} (b_0 : ByteArray) (t5 : Zt9) (t6 : Int) (ex0_0 : Zt9 → Int → Int → Zt9 → Option R) (nx0 : ByteArray → Zt9 → Int → Option R) (ex0_1 : Zt9 → Option R) : Option R :=
  (bif (decide (t6 < ((b_0).size : Int))) then ((r08_Get b_0 t6).bind fun r1 => (bif (!(decide (r1.2.2 = (0 : Int)))) then (ex0_0 ([] : List Zt6) r1.2.2 t6 t5) else ((r09_Get b_0 r1.2.1).bind fun r2 => (bif (!(decide (r2.2.2 = (0 : Int)))) then (ex0_0 ([] : List Zt6) r2.2.2 r1.2.1 t5) else (bif (decide ((IntKind.i64.wrap (((b_0).size : Int) - r2.2.1)) < r2.1)) then (ex0_0 ([] : List Zt6) (2 : Int) ((b_0).size : Int) t5) else ((r10_has t5 ((List.length t5) : Int) r1.1).bind fun r3 => (bif r3 then (ex0_0 ([] : List Zt6) (10 : Int) t6 t5) else (bif (decide ((0 : Int) ≤ (IntKind.i64.wrap (r2.2.1 + r2.1)))) then (bif (decide ((IntKind.i64.wrap (r2.2.1 + r2.1)) ≤ (((b_0).size : Nat) : Int))) then (bif (decide ((0 : Int) ≤ r2.2.1)) then (bif (decide (r2.2.1 ≤ ((((IntKind.i64.wrap (r2.2.1 + r2.1))).toNat : Nat) : Int))) then (bif (decide (((List.length t5) + (List.length ([(r1.1, ((b_0).extract (r2.2.1).toNat ((IntKind.i64.wrap (r2.2.1 + r2.1))).toNat), ())] : List Zt6))) * 24 ≤ 140737488355328)) then (nx0 b_0 (t5 ++ ([(r1.1, ((b_0).extract (r2.2.1).toNat ((IntKind.i64.wrap (r2.2.1 + r2.1))).toNat), ())] : List Zt6)) (IntKind.i64.wrap (r2.2.1 + r2.1))) else none) else none) else none) else none) else none)))))))) else (ex0_1 t5))
def r10_Get_s2 {R : Type} (t2 : Zt9) (t3 : Int) (t4 : Int) (t5 : Zt9) (kr0 : Zt9 → Int → Int → Option R) : Option R :=
  (kr0 t2 t3 t4)
def r10_Get_s3 {R : Type} (t5 : Zt9) (kr1 : Zt9 → Int → Int → Option R) : Option R :=
  (kr1 t5 (0 : Int) (0 : Int))
def r10_Get_l0 : Nat → ByteArray → Zt9 → Int → Option (Sum Zt19 Zt9)
  | 0, _, _, _ => none
  | k + 1, v0, v1, v2 => r10_Get_s1 v0 v1 v2 (fun a0 a1 a2 a3 => some (.inl (a0, a1, a2, a3))) (fun a0 a1 a2 => r10_Get_l0 k a0 a1 a2) (fun a0 => some (.inr a0))
def r10_Get (b_0 : ByteArray) : Option (Sum Zt14 Zt14) :=
  r10_Get_s0 b_0 (fun a0 a1 a2 => (r10_Get_l0 FUEL a0 a1 a2).bind fun e => (Sum.elim (fun (we : Zt19) => r10_Get_s2 we.1 we.2.1 we.2.2.1 we.2.2.2 (fun a0 a1 a2 => some (.inl (a0, a1, a2)))) (fun (we : Zt9) => r10_Get_s3 we (fun a0 a1 a2 => some (.inr (a0, a1, a2)))) e))
end Groat
set_option linter.unusedVariables false
set_option linter.unusedSimpArgs false
set_option maxRecDepth 100000
namespace Groat
open Go Go.Ref
def r11_Check_s0 {R : Type} (s_0 : Zt11) (kr0 : Int → Option R) : Option R :=
  (bif (decide (s_0.1 < (2 : Int))) then (kr0 (1 : Int)) else (bif (decide ((128 : Int) < s_0.1)) then (kr0 (1 : Int)) else (bif (decide (s_0.2.1 < (1 : Int))) then (kr0 (6 : Int)) else (bif (decide ((6 : Int) < s_0.2.1)) then (kr0 (6 : Int)) else (bif (decide (s_0.2.2.1 < (1 : Int))) then (kr0 (3 : Int)) else (bif (decide ((3 : Int) < s_0.2.2.1)) then (kr0 (3 : Int)) else (bif (decide (s_0.2.2.1 = (2 : Int))) then (bif (decide (s_0.2.2.2.1 < (1 : Int))) then (kr0 (5 : Int)) else (bif (decide (s_0.2.2.2.2.1 < s_0.2.2.2.1)) then (kr0 (5 : Int)) else (bif (decide ((99 : Int) < s_0.2.2.2.2.1)) then (kr0 (5 : Int)) else (bif (decide (s_0.2.2.1 = (1 : Int))) then (bif (!(decide (s_0.2.2.2.1 = s_0.2.2.2.2.1))) then (kr0 (5 : Int)) else (bif (decide (s_0.2.2.1 = (1 : Int))) then (bif (decide (s_0.2.1 = (6 : Int))) then (kr0 (13 : Int)) else (kr0 (0 : Int))) else (kr0 (0 : Int)))) else (bif (decide (s_0.2.2.1 = (1 : Int))) then (bif (decide (s_0.2.1 = (6 : Int))) then (kr0 (13 : Int)) else (kr0 (0 : Int))) else (kr0 (0 : Int))))))) else (bif (decide (s_0.2.2.2.1 < (1 : Int))) then (kr0 (5 : Int)) else (bif (decide (s_0.2.2.2.2.1 < s_0.2.2.2.1)) then (kr0 (5 : Int)) else (bif (decide ((999 : Int) < s_0.2.2.2.2.1)) then (kr0 (5 : Int)) else (bif (decide (s_0.2.2.1 = (1 : Int))) then (bif (!(decide (s_0.2.2.2.1 = s_0.2.2.2.2.1))) then (kr0 (5 : Int)) else (bif (decide (s_0.2.2.1 = (1 : Int))) then (bif (decide (s_0.2.1 = (6 : Int))) then (kr0 (13 : Int)) else (kr0 (0 : Int))) else (kr0 (0 : Int)))) else (bif (decide (s_0.2.2.1 = (1 : Int))) then (bif (decide (s_0.2.1 = (6 : Int))) then (kr0 (13 : Int)) else (kr0 (0 : Int))) else (kr0 (0 : Int))))))))))))))
def r11_Check (s_0 : Zt11) : Option Int :=
  r11_Check_s0 s_0 (fun a0 => some a0)
def r11_Wider_s0 {R : Type} (a_0 : Zt11) (b_1 : Zt11) (kr0 : Bool → Option R) : Option R :=
  ((r11_Check a_0).bind fun r1 => (bif (!(decide (r1 = (0 : Int)))) then (kr0 false) else ((r11_Check b_1).bind fun r2 => (bif (!(decide (r2 = (0 : Int)))) then (kr0 false) else (bif (decide (b_1.2.2.2.1 < a_0.2.2.2.1)) then (kr0 false) else (bif (decide (a_0.2.2.2.2.1 < b_1.2.2.2.2.1)) then (kr0 false) else (bif (decide (a_0.2.1 = (5 : Int))) then (kr0 true) else (bif (decide (a_0.2.1 = (6 : Int))) then (kr0 (decide (a_0.2.1 = b_1.2.1))) else (bif (decide (b_1.2.1 = (6 : Int))) then (kr0 (decide (a_0.2.1 = b_1.2.1))) else ((r04_Wider a_0.2.1 b_1.2.1).bind fun r3 => (kr0 r3)))))))))))
def r11_Wider (a_0 : Zt11) (b_1 : Zt11) : Option Bool :=
  r11_Wider_s0 a_0 b_1 (fun a0 => some a0)
def r11_Value_s0 {R : Type} (s_0 : Zt11) (text_1 : ByteArray) (kr0 : Int → Option R) : Option R :=
  ((r11_Check s_0).bind fun r1 => (bif (!(decide (r1 = (0 : Int)))) then (kr0 (1 : Int)) else (bif (decide (((text_1).size : Int) < s_0.2.2.2.1)) then (kr0 (5 : Int)) else (bif (decide (s_0.2.2.2.2.1 < ((text_1).size : Int))) then (kr0 (5 : Int)) else ((r04_First s_0.2.1 text_1).bind fun r2 => (bif (decide ((0 : Int) ≤ r2)) then (kr0 (6 : Int)) else (bif (decide (s_0.2.1 = (6 : Int))) then ((r10_Get text_1).bind fun r3 => (Sum.elim (fun (wr3 : Zt14) => (bif (!(decide (wr3.2.1 = (0 : Int)))) then (kr0 (13 : Int)) else (kr0 (0 : Int)))) (fun (wr3 : Zt14) => (bif (!(decide (wr3.2.1 = (0 : Int)))) then (kr0 (13 : Int)) else (kr0 (0 : Int)))) r3)) else (kr0 (0 : Int)))))))))
def r11_Value (s_0 : Zt11) (text_1 : ByteArray) : Option Int :=
  r11_Value_s0 s_0 text_1 (fun a0 => some a0)
end Groat
set_option linter.unusedVariables false
set_option linter.unusedSimpArgs false
set_option maxRecDepth 100000
namespace Groat
open Go Go.Ref
end Groat
set_option linter.unusedVariables false
set_option linter.unusedSimpArgs false
set_option maxRecDepth 100000
namespace Groat
open Go Go.Ref
end Groat
set_option linter.unusedVariables false
set_option linter.unusedSimpArgs false
set_option maxRecDepth 100000
namespace Groat
open Go Go.Ref
end Groat
set_option linter.unusedVariables false
set_option linter.unusedSimpArgs false
set_option maxRecDepth 100000
namespace Groat
open Go Go.Ref
def r16_Same_s0 {R : Type} (a_0 : Zt15) (b_1 : Zt15) (kr0 : Bool → Option R) (go0 : Int → Zt15 → Zt15 → Option R) : Option R :=
  (bif (!(decide (a_0.1 = b_1.1))) then (kr0 false) else (bif (!(decide (((List.length a_0.2.1) : Int) = ((List.length b_1.2.1) : Int)))) then (kr0 false) else (go0 (0 : Int) a_0 b_1)))
theorem r16_Same_s0_bind {R S : Type} (F : R → Option S) (a_0 : Zt15) (b_1 : Zt15) (kr0 : Bool → Option R) (go0 : Int → Zt15 → Zt15 → Option R) : (r16_Same_s0 a_0 b_1 kr0 go0).bind F = r16_Same_s0 a_0 b_1 (fun a0 => (kr0 a0).bind F) (fun a0 a1 a2 => (go0 a0 a1 a2).bind F) := by
  simp only [r16_Same_s0, cond_bind, within_bind, none_bind, some_bind, sum_bind, bind_bind]
def r16_Same_s1 {R : Type} (t5 : Int) (bt2 : Zt15) (bt3 : Zt15) (ex0_0 : Bool → Option R) (nx0 : Int → Zt15 → Zt15 → Option R) (ex0_1 : Option R) : Option R :=
  (bif (decide (t5 < ((List.length bt2.2.1) : Int))) then (within t5 (List.length bt2.2.1) (within t5 (List.length bt3.2.1) (bif (!((decide ((List.getD bt2.2.1 (t5).toNat ((0 : Int), (bs []), ())).1 = (List.getD bt3.2.1 (t5).toNat ((0 : Int), (bs []), ())).1)) && ((decide ((List.getD bt2.2.1 (t5).toNat ((0 : Int), (bs []), ())).2.1 = (List.getD bt3.2.1 (t5).toNat ((0 : Int), (bs []), ())).2.1)) && true))) then (ex0_0 false) else (nx0 (IntKind.i64.wrap (t5 + (1 : Int))) bt2 bt3)))) else (ex0_1))
theorem r16_Same_s1_bind {R S : Type} (F : R → Option S) (t5 : Int) (bt2 : Zt15) (bt3 : Zt15) (ex0_0 : Bool → Option R) (nx0 : Int → Zt15 → Zt15 → Option R) (ex0_1 : Option R) : (r16_Same_s1 t5 bt2 bt3 ex0_0 nx0 ex0_1).bind F = r16_Same_s1 t5 bt2 bt3 (fun a0 => (ex0_0 a0).bind F) (fun a0 a1 a2 => (nx0 a0 a1 a2).bind F) ((ex0_1).bind F) := by
  simp only [r16_Same_s1, cond_bind, within_bind, none_bind, some_bind, sum_bind, bind_bind]
def r16_Same_s2 {R : Type} (t4 : Bool) (kr0 : Bool → Option R) : Option R :=
  (kr0 t4)
theorem r16_Same_s2_bind {R S : Type} (F : R → Option S) (t4 : Bool) (kr0 : Bool → Option R) : (r16_Same_s2 t4 kr0).bind F = r16_Same_s2 t4 (fun a0 => (kr0 a0).bind F) := by
  simp only [r16_Same_s2, cond_bind, within_bind, none_bind, some_bind, sum_bind, bind_bind]
def r16_Same_s3 {R : Type}  (kr0 : Bool → Option R) : Option R :=
  (kr0 true)
theorem r16_Same_s3_bind {R S : Type} (F : R → Option S)  (kr0 : Bool → Option R) : (r16_Same_s3 kr0).bind F = r16_Same_s3 (fun a0 => (kr0 a0).bind F) := by
  simp only [r16_Same_s3, cond_bind, within_bind, none_bind, some_bind, sum_bind, bind_bind]
def r16_Same_l0 : Nat → Int → Zt15 → Zt15 → Option (Sum Bool Unit)
  | 0, _, _, _ => none
  | k + 1, v0, v1, v2 => r16_Same_s1 v0 v1 v2 (fun a0 => some (.inl a0)) (fun a0 a1 a2 => r16_Same_l0 k a0 a1 a2) (some (.inr ()))
def r16_Same (a_0 : Zt15) (b_1 : Zt15) : Option Bool :=
  r16_Same_s0 a_0 b_1 (fun a0 => some a0) (fun a0 a1 a2 => (r16_Same_l0 FUEL a0 a1 a2).bind fun e => (Sum.elim (fun (we : Bool) => r16_Same_s2 we (fun a0 => some a0)) (fun (we : Unit) => r16_Same_s3 (fun a0 => some a0)) e))
def r16_Great_s0 {R : Type} (m_0 : Zt15) (kr0 : Bool → Option R) (go0 : Int → Zt15 → Option R) : Option R :=
  (bif (decide ((100 : Int) < ((m_0.1).size : Int))) then (kr0 true) else (bif (decide ((200 : Int) < ((List.length m_0.2.1) : Int))) then (kr0 true) else (go0 (0 : Int) m_0)))
theorem r16_Great_s0_bind {R S : Type} (F : R → Option S) (m_0 : Zt15) (kr0 : Bool → Option R) (go0 : Int → Zt15 → Option R) : (r16_Great_s0 m_0 kr0 go0).bind F = r16_Great_s0 m_0 (fun a0 => (kr0 a0).bind F) (fun a0 a1 => (go0 a0 a1).bind F) := by
  simp only [r16_Great_s0, cond_bind, within_bind, none_bind, some_bind, sum_bind, bind_bind]
def r16_Great_s1 {R : Type} (t3 : Int) (bt1 : Zt15) (ex0_0 : Bool → Option R) (nx0 : Int → Zt15 → Option R) (ex0_1 : Option R) : Option R :=
  (bif (decide (t3 < ((List.length bt1.2.1) : Int))) then (within t3 (List.length bt1.2.1) (bif (decide ((1200 : Int) < (((List.getD bt1.2.1 (t3).toNat ((0 : Int), (bs []), ())).2.1).size : Int))) then (ex0_0 true) else (nx0 (IntKind.i64.wrap (t3 + (1 : Int))) bt1))) else (ex0_1))
theorem r16_Great_s1_bind {R S : Type} (F : R → Option S) (t3 : Int) (bt1 : Zt15) (ex0_0 : Bool → Option R) (nx0 : Int → Zt15 → Option R) (ex0_1 : Option R) : (r16_Great_s1 t3 bt1 ex0_0 nx0 ex0_1).bind F = r16_Great_s1 t3 bt1 (fun a0 => (ex0_0 a0).bind F) (fun a0 a1 => (nx0 a0 a1).bind F) ((ex0_1).bind F) := by
  simp only [r16_Great_s1, cond_bind, within_bind, none_bind, some_bind, sum_bind, bind_bind]
def r16_Great_s2 {R : Type} (t2 : Bool) (kr0 : Bool → Option R) : Option R :=
  (kr0 t2)
theorem r16_Great_s2_bind {R S : Type} (F : R → Option S) (t2 : Bool) (kr0 : Bool → Option R) : (r16_Great_s2 t2 kr0).bind F = r16_Great_s2 t2 (fun a0 => (kr0 a0).bind F) := by
  simp only [r16_Great_s2, cond_bind, within_bind, none_bind, some_bind, sum_bind, bind_bind]
def r16_Great_s3 {R : Type}  (kr0 : Bool → Option R) : Option R :=
  (kr0 false)
theorem r16_Great_s3_bind {R S : Type} (F : R → Option S)  (kr0 : Bool → Option R) : (r16_Great_s3 kr0).bind F = r16_Great_s3 (fun a0 => (kr0 a0).bind F) := by
  simp only [r16_Great_s3, cond_bind, within_bind, none_bind, some_bind, sum_bind, bind_bind]
def r16_Great_l0 : Nat → Int → Zt15 → Option (Sum Bool Unit)
  | 0, _, _ => none
  | k + 1, v0, v1 => r16_Great_s1 v0 v1 (fun a0 => some (.inl a0)) (fun a0 a1 => r16_Great_l0 k a0 a1) (some (.inr ()))
def r16_Great (m_0 : Zt15) : Option Bool :=
  r16_Great_s0 m_0 (fun a0 => some a0) (fun a0 a1 => (r16_Great_l0 FUEL a0 a1).bind fun e => (Sum.elim (fun (we : Bool) => r16_Great_s2 we (fun a0 => some a0)) (fun (we : Unit) => r16_Great_s3 (fun a0 => some a0)) e))
end Groat
set_option linter.unusedVariables false
set_option linter.unusedSimpArgs false
set_option maxRecDepth 100000
namespace Groat
open Go Go.Ref
def mti_Right_s0 {R : Type} (m_0 : ByteArray) (kr0 : Bool → Option R) : Option R :=
  (bif (decide (((m_0).size : Int) = (4 : Int))) then ((digits_All m_0).bind fun r1 => (kr0 r1)) else (kr0 false))
theorem mti_Right_s0_bind {R S : Type} (F : R → Option S) (m_0 : ByteArray) (kr0 : Bool → Option R) : (mti_Right_s0 m_0 kr0).bind F = mti_Right_s0 m_0 (fun a0 => (kr0 a0).bind F) := by
  simp only [mti_Right_s0, cond_bind, within_bind, none_bind, some_bind, sum_bind, bind_bind]
def mti_Right (m_0 : ByteArray) : Option Bool :=
  mti_Right_s0 m_0 (fun a0 => some a0)
def mti_Version_s0 {R : Type} (m_0 : ByteArray) (kr0 : Int → Bool → Option R) : Option R :=
  ((mti_Right m_0).bind fun r1 => (bif (!r1) then (kr0 (0 : Int) false) else (within (0 : Int) (m_0).size (kr0 (IntKind.i64.wrap (IntKind.u8.wrap ((byteAt m_0 ((0 : Int)).toNat) - (48 : Int)))) true))))
theorem mti_Version_s0_bind {R S : Type} (F : R → Option S) (m_0 : ByteArray) (kr0 : Int → Bool → Option R) : (mti_Version_s0 m_0 kr0).bind F = mti_Version_s0 m_0 (fun a0 a1 => (kr0 a0 a1).bind F) := by
  simp only [mti_Version_s0, cond_bind, within_bind, none_bind, some_bind, sum_bind, bind_bind]
def mti_Version (m_0 : ByteArray) : Option (Int × Bool) :=
  mti_Version_s0 m_0 (fun a0 a1 => some (a0, a1))
def mti_Request_s0 {R : Type} (m_0 : ByteArray) (kr0 : Bool → Option R) : Option R :=
  ((mti_Right m_0).bind fun r1 => (bif r1 then (within (2 : Int) (m_0).size (bif (decide ((byteAt m_0 ((2 : Int)).toNat) = (48 : Int))) then (kr0 true) else (within (2 : Int) (m_0).size (kr0 (decide ((byteAt m_0 ((2 : Int)).toNat) = (50 : Int))))))) else (kr0 false)))
theorem mti_Request_s0_bind {R S : Type} (F : R → Option S) (m_0 : ByteArray) (kr0 : Bool → Option R) : (mti_Request_s0 m_0 kr0).bind F = mti_Request_s0 m_0 (fun a0 => (kr0 a0).bind F) := by
  simp only [mti_Request_s0, cond_bind, within_bind, none_bind, some_bind, sum_bind, bind_bind]
def mti_Request (m_0 : ByteArray) : Option Bool :=
  mti_Request_s0 m_0 (fun a0 => some a0)
end Groat
set_option linter.unusedVariables false
set_option linter.unusedSimpArgs false
set_option maxRecDepth 100000
namespace Groat
open Go Go.Ref
def msg_Check_s0 {R : Type} (s_0 : Zt16) (m_1 : Zt15) (kr0 : Zt4 → Option R) (go0 : Int → Zt9 → Int → Int → Zt16 → Zt4 → Option R) : Option R :=
  ((schema_Check s_0).bind fun r1 => (bif (!(decide (r1.1 = (0 : Int)))) then (kr0 ((1 : Int), (-1 : Int), ())) else ((mti_Version m_1.1).bind fun r2 => (bif (!r2.2) then (kr0 ((7 : Int), (0 : Int), ())) else (bif (!(decide (r2.1 = s_0.2.1))) then (kr0 ((7 : Int), (0 : Int), ())) else (go0 (0 : Int) m_1.2.1 ((List.length m_1.2.1) : Int) (0 : Int) s_0 ((0 : Int), (0 : Int), ())))))))
theorem msg_Check_s0_bind {R S : Type} (F : R → Option S) (s_0 : Zt16) (m_1 : Zt15) (kr0 : Zt4 → Option R) (go0 : Int → Zt9 → Int → Int → Zt16 → Zt4 → Option R) : (msg_Check_s0 s_0 m_1 kr0 go0).bind F = msg_Check_s0 s_0 m_1 (fun a0 => (kr0 a0).bind F) (fun a0 a1 a2 a3 a4 a5 => (go0 a0 a1 a2 a3 a4 a5).bind F) := by
  simp only [msg_Check_s0, cond_bind, within_bind, none_bind, some_bind, sum_bind, bind_bind]
def msg_Check_s1 {R : Type} (t9 : Int) (t39 : Zt9) (t40 : Int) (t41 : Int) (bt2 : Zt16) (bt4 : Zt4) (ex0_0 : Zt4 → Option R) (nx0 : Int → Zt9 → Int → Int → Zt16 → Zt4 → Option R) (ex0_1 : Zt4 → Option R) : Option R :=
  (bif (decide (t41 < t40)) then (within t41 (List.length t39) (bif (decide ((List.getD t39 (t41).toNat ((0 : Int), (bs []), ())).1 ≤ t9)) then (ex0_0 ((11 : Int), (List.getD t39 (t41).toNat ((0 : Int), (bs []), ())).1, ())) else ((schema_Find bt2 (List.getD t39 (t41).toNat ((0 : Int), (bs []), ())).1).bind fun r3 => (bif (!r3.2) then (ex0_0 ((9 : Int), (List.getD t39 (t41).toNat ((0 : Int), (bs []), ())).1, ())) else ((spec_Value r3.1 (List.getD t39 (t41).toNat ((0 : Int), (bs []), ())).2.1).bind fun r4 => (bif (!(decide (r4 = (0 : Int)))) then (ex0_0 (r4, (List.getD t39 (t41).toNat ((0 : Int), (bs []), ())).1, ())) else (nx0 (List.getD t39 (t41).toNat ((0 : Int), (bs []), ())).1 t39 t40 (IntKind.i64.wrap (t41 + (1 : Int))) bt2 bt4))))))) else (ex0_1 bt4))
theorem msg_Check_s1_bind {R S : Type} (F : R → Option S) (t9 : Int) (t39 : Zt9) (t40 : Int) (t41 : Int) (bt2 : Zt16) (bt4 : Zt4) (ex0_0 : Zt4 → Option R) (nx0 : Int → Zt9 → Int → Int → Zt16 → Zt4 → Option R) (ex0_1 : Zt4 → Option R) : (msg_Check_s1 t9 t39 t40 t41 bt2 bt4 ex0_0 nx0 ex0_1).bind F = msg_Check_s1 t9 t39 t40 t41 bt2 bt4 (fun a0 => (ex0_0 a0).bind F) (fun a0 a1 a2 a3 a4 a5 => (nx0 a0 a1 a2 a3 a4 a5).bind F) (fun a0 => (ex0_1 a0).bind F) := by
  simp only [msg_Check_s1, cond_bind, within_bind, none_bind, some_bind, sum_bind, bind_bind]
def msg_Check_s2 {R : Type} (bt4 : Zt4) (kr0 : Zt4 → Option R) : Option R :=
  (kr0 bt4)
theorem msg_Check_s2_bind {R S : Type} (F : R → Option S) (bt4 : Zt4) (kr0 : Zt4 → Option R) : (msg_Check_s2 bt4 kr0).bind F = msg_Check_s2 bt4 (fun a0 => (kr0 a0).bind F) := by
  simp only [msg_Check_s2, cond_bind, within_bind, none_bind, some_bind, sum_bind, bind_bind]
def msg_Check_s3 {R : Type} (bt4 : Zt4) (kr0 : Zt4 → Option R) : Option R :=
  (kr0 ((0 : Int), (0 : Int), ()))
theorem msg_Check_s3_bind {R S : Type} (F : R → Option S) (bt4 : Zt4) (kr0 : Zt4 → Option R) : (msg_Check_s3 bt4 kr0).bind F = msg_Check_s3 bt4 (fun a0 => (kr0 a0).bind F) := by
  simp only [msg_Check_s3, cond_bind, within_bind, none_bind, some_bind, sum_bind, bind_bind]
def msg_Check_l0 : Nat → Int → Zt9 → Int → Int → Zt16 → Zt4 → Option (Sum Zt4 Zt4)
  | 0, _, _, _, _, _, _ => none
  | k + 1, v0, v1, v2, v3, v4, v5 => msg_Check_s1 v0 v1 v2 v3 v4 v5 (fun a0 => some (.inl a0)) (fun a0 a1 a2 a3 a4 a5 => msg_Check_l0 k a0 a1 a2 a3 a4 a5) (fun a0 => some (.inr a0))
def msg_Check (s_0 : Zt16) (m_1 : Zt15) : Option Zt4 :=
  msg_Check_s0 s_0 m_1 (fun a0 => some a0) (fun a0 a1 a2 a3 a4 a5 => (msg_Check_l0 FUEL a0 a1 a2 a3 a4 a5).bind fun e => (Sum.elim (fun (we : Zt4) => msg_Check_s2 we (fun a0 => some a0)) (fun (we : Zt4) => msg_Check_s3 we (fun a0 => some a0)) e))
def msg_Without_s0 {R : Type} (m_0 : Zt15) (no_1 : Int) (go0 : Int → Zt9 → Int → Int → Zt15 → Zt15 → Option R) : Option R :=
  (go0 no_1 m_0.2.1 ((List.length m_0.2.1) : Int) (0 : Int) ((bs []), ([] : List Zt6), ()) (m_0.1, ([] : List Zt6), ()))
theorem msg_Without_s0_bind {R S : Type} (F : R → Option S) (m_0 : Zt15) (no_1 : Int) (go0 : Int → Zt9 → Int → Int → Zt15 → Zt15 → Option R) : (msg_Without_s0 m_0 no_1 go0).bind F = msg_Without_s0 m_0 no_1 (fun a0 a1 a2 a3 a4 a5 => (go0 a0 a1 a2 a3 a4 a5).bind F) := by
  simp only [msg_Without_s0, cond_bind, within_bind, none_bind, some_bind, sum_bind, bind_bind]
def msg_Without_s1 {R : Type} (no_1 : Int) (t12 : Zt9) (t13 : Int) (t14 : Int) (bt4 : Zt15) (bt5 : Zt15) (nx0 : Int → Zt9 → Int → Int → Zt15 → Zt15 → Option R) (ex0_0 : Zt15 → Zt15 → Option R) : Option R :=
  (bif (decide (t14 < t13)) then (within t14 (List.length t12) (bif (!(decide ((List.getD t12 (t14).toNat ((0 : Int), (bs []), ())).1 = no_1))) then (bif (decide (((List.length bt5.2.1) + (List.length ([(List.getD t12 (t14).toNat ((0 : Int), (bs []), ()))] : List Zt6))) * 24 ≤ 140737488355328)) then (nx0 no_1 t12 t13 (IntKind.i64.wrap (t14 + (1 : Int))) bt4 (bt5.1, (bt5.2.1 ++ ([(List.getD t12 (t14).toNat ((0 : Int), (bs []), ()))] : List Zt6)), ())) else none) else (nx0 no_1 t12 t13 (IntKind.i64.wrap (t14 + (1 : Int))) bt4 bt5))) else (ex0_0 bt4 bt5))
theorem msg_Without_s1_bind {R S : Type} (F : R → Option S) (no_1 : Int) (t12 : Zt9) (t13 : Int) (t14 : Int) (bt4 : Zt15) (bt5 : Zt15) (nx0 : Int → Zt9 → Int → Int → Zt15 → Zt15 → Option R) (ex0_0 : Zt15 → Zt15 → Option R) : (msg_Without_s1 no_1 t12 t13 t14 bt4 bt5 nx0 ex0_0).bind F = msg_Without_s1 no_1 t12 t13 t14 bt4 bt5 (fun a0 a1 a2 a3 a4 a5 => (nx0 a0 a1 a2 a3 a4 a5).bind F) (fun a0 a1 => (ex0_0 a0 a1).bind F) := by
  simp only [msg_Without_s1, cond_bind, within_bind, none_bind, some_bind, sum_bind, bind_bind]
def msg_Without_s2 {R : Type} (bt4 : Zt15) (bt5 : Zt15) (kr0 : Zt15 → Option R) : Option R :=
  (kr0 bt5)
theorem msg_Without_s2_bind {R S : Type} (F : R → Option S) (bt4 : Zt15) (bt5 : Zt15) (kr0 : Zt15 → Option R) : (msg_Without_s2 bt4 bt5 kr0).bind F = msg_Without_s2 bt4 bt5 (fun a0 => (kr0 a0).bind F) := by
  simp only [msg_Without_s2, cond_bind, within_bind, none_bind, some_bind, sum_bind, bind_bind]
def msg_Without_l0 : Nat → Int → Zt9 → Int → Int → Zt15 → Zt15 → Option (Zt15 × Zt15)
  | 0, _, _, _, _, _, _ => none
  | k + 1, v0, v1, v2, v3, v4, v5 => msg_Without_s1 v0 v1 v2 v3 v4 v5 (fun a0 a1 a2 a3 a4 a5 => msg_Without_l0 k a0 a1 a2 a3 a4 a5) (fun a0 a1 => some (a0, a1))
def msg_Without (m_0 : Zt15) (no_1 : Int) : Option Zt15 :=
  msg_Without_s0 m_0 no_1 (fun a0 a1 a2 a3 a4 a5 => (msg_Without_l0 FUEL a0 a1 a2 a3 a4 a5).bind fun e => msg_Without_s2 e.1 e.2 (fun a0 => some a0))
def msg_With_1_s0 {R : Type} (x_0 : Zt6) (free_1 : Int) (kr0 : Bool → Int → Option R) : Option R :=
  (kr0 (decide (free_1 < x_0.1)) free_1)
theorem msg_With_1_s0_bind {R S : Type} (F : R → Option S) (x_0 : Zt6) (free_1 : Int) (kr0 : Bool → Int → Option R) : (msg_With_1_s0 x_0 free_1 kr0).bind F = msg_With_1_s0 x_0 free_1 (fun a0 a1 => (kr0 a0 a1).bind F) := by
  simp only [msg_With_1_s0, cond_bind, within_bind, none_bind, some_bind, sum_bind, bind_bind]
def msg_With_1 (x_0 : Zt6) (free_1 : Int) : Option (Bool × Int) :=
  msg_With_1_s0 x_0 free_1 (fun a0 a1 => some (a0, a1))
def slices_IndexFunc_api_Value_api_Value_at_msg_With_1_s0 {R : Type} (a_0 : Zt9) (a_1 : Int) (go0 : Zt9 → Int → Int → Int → Option R) : Option R :=
  (go0 a_0 ((List.length a_0) : Int) (0 : Int) a_1)
theorem slices_IndexFunc_api_Value_api_Value_at_msg_With_1_s0_bind {R S : Type} (F : R → Option S) (a_0 : Zt9) (a_1 : Int) (go0 : Zt9 → Int → Int → Int → Option R) : (slices_IndexFunc_api_Value_api_Value_at_msg_With_1_s0 a_0 a_1 go0).bind F = slices_IndexFunc_api_Value_api_Value_at_msg_With_1_s0 a_0 a_1 (fun a0 a1 a2 a3 => (go0 a0 a1 a2 a3).bind F) := by
  simp only [slices_IndexFunc_api_Value_api_Value_at_msg_With_1_s0, cond_bind, within_bind, none_bind, some_bind, sum_bind, bind_bind]
def slices_IndexFunc_api_Value_api_Value_at_msg_With_1_s1 {R : Type} (a_0 : Zt9) (t7 : Int) (t8 : Int) (recv : Int) (ex0_0 : Int → Int → Option R) (nx0 : Zt9 → Int → Int → Int → Option R) (ex0_1 : Int → Option R) : Option R :=
  (bif (decide (t8 < t7)) then (within t8 (List.length a_0) ((msg_With_1 (List.getD a_0 (t8).toNat ((0 : Int), (bs []), ())) recv).bind fun r1 => (bif r1.1 then (ex0_0 t8 r1.2) else (nx0 a_0 t7 (IntKind.i64.wrap (t8 + (1 : Int))) r1.2)))) else (ex0_1 recv))
theorem slices_IndexFunc_api_Value_api_Value_at_msg_With_1_s1_bind {R S : Type} (F : R → Option S) (a_0 : Zt9) (t7 : Int) (t8 : Int) (recv : Int) (ex0_0 : Int → Int → Option R) (nx0 : Zt9 → Int → Int → Int → Option R) (ex0_1 : Int → Option R) : (slices_IndexFunc_api_Value_api_Value_at_msg_With_1_s1 a_0 t7 t8 recv ex0_0 nx0 ex0_1).bind F = slices_IndexFunc_api_Value_api_Value_at_msg_With_1_s1 a_0 t7 t8 recv (fun a0 a1 => (ex0_0 a0 a1).bind F) (fun a0 a1 a2 a3 => (nx0 a0 a1 a2 a3).bind F) (fun a0 => (ex0_1 a0).bind F) := by
  simp only [slices_IndexFunc_api_Value_api_Value_at_msg_With_1_s1, cond_bind, within_bind, none_bind, some_bind, sum_bind, bind_bind]
def slices_IndexFunc_api_Value_api_Value_at_msg_With_1_s2 {R : Type} (t4 : Int) (recv : Int) (kr0 : Int → Int → Option R) : Option R :=
  (kr0 t4 recv)
theorem slices_IndexFunc_api_Value_api_Value_at_msg_With_1_s2_bind {R S : Type} (F : R → Option S) (t4 : Int) (recv : Int) (kr0 : Int → Int → Option R) : (slices_IndexFunc_api_Value_api_Value_at_msg_With_1_s2 t4 recv kr0).bind F = slices_IndexFunc_api_Value_api_Value_at_msg_With_1_s2 t4 recv (fun a0 a1 => (kr0 a0 a1).bind F) := by
  simp only [slices_IndexFunc_api_Value_api_Value_at_msg_With_1_s2, cond_bind, within_bind, none_bind, some_bind, sum_bind, bind_bind]
def slices_IndexFunc_api_Value_api_Value_at_msg_With_1_s3 {R : Type} (recv : Int) (kr0 : Int → Int → Option R) : Option R :=
  (kr0 (-1 : Int) recv)
theorem slices_IndexFunc_api_Value_api_Value_at_msg_With_1_s3_bind {R S : Type} (F : R → Option S) (recv : Int) (kr0 : Int → Int → Option R) : (slices_IndexFunc_api_Value_api_Value_at_msg_With_1_s3 recv kr0).bind F = slices_IndexFunc_api_Value_api_Value_at_msg_With_1_s3 recv (fun a0 a1 => (kr0 a0 a1).bind F) := by
  simp only [slices_IndexFunc_api_Value_api_Value_at_msg_With_1_s3, cond_bind, within_bind, none_bind, some_bind, sum_bind, bind_bind]
def slices_IndexFunc_api_Value_api_Value_at_msg_With_1_l0 : Nat → Zt9 → Int → Int → Int → Option (Sum (Int × Int) Int)
  | 0, _, _, _, _ => none
  | k + 1, v0, v1, v2, v3 => slices_IndexFunc_api_Value_api_Value_at_msg_With_1_s1 v0 v1 v2 v3 (fun a0 a1 => some (.inl (a0, a1))) (fun a0 a1 a2 a3 => slices_IndexFunc_api_Value_api_Value_at_msg_With_1_l0 k a0 a1 a2 a3) (fun a0 => some (.inr a0))
def slices_IndexFunc_api_Value_api_Value_at_msg_With_1 (a_0 : Zt9) (a_1 : Int) : Option (Int × Int) :=
  slices_IndexFunc_api_Value_api_Value_at_msg_With_1_s0 a_0 a_1 (fun a0 a1 a2 a3 => (slices_IndexFunc_api_Value_api_Value_at_msg_With_1_l0 FUEL a0 a1 a2 a3).bind fun e => (Sum.elim (fun (we : (Int × Int)) => slices_IndexFunc_api_Value_api_Value_at_msg_With_1_s2 we.1 we.2 (fun a0 a1 => some (a0, a1))) (fun (we : Int) => slices_IndexFunc_api_Value_api_Value_at_msg_With_1_s3 we (fun a0 a1 => some (a0, a1))) e))
def msg_With_s0 {R : Type} (m_0 : Zt15) (no_1 : Int) (text_2 : ByteArray) (kr0 : Zt15 → Option R) : Option R :=
  ((msg_Without m_0 no_1).bind fun r1 => ((slices_IndexFunc_api_Value_api_Value_at_msg_With_1 r1.2.1 no_1).bind fun r2 => (bif (decide (r2.1 < (0 : Int))) then (bif (decide ((IntKind.i64.wrap (((List.length r1.2.1) : Int) + (1 : Int))) = (IntKind.i64.wrap (((List.length r1.2.1) : Int) + (1 : Int))))) then (bif (decide ((0 : Int) ≤ (IntKind.i64.wrap (((List.length r1.2.1) : Int) + (1 : Int))))) then (bif (decide ((IntKind.i64.wrap (((List.length r1.2.1) : Int) + (1 : Int))) * 24 ≤ 140737488355328)) then (bif (decide ((0 : Int) ≤ ((List.length r1.2.1) : Int))) then (bif (decide (((List.length r1.2.1) : Int) ≤ (((List.length r1.2.1) : Nat) : Int))) then (bif (Nat.beq ((IntKind.i64.wrap (((List.length r1.2.1) : Int) + (1 : Int)))).toNat (List.length (List.replicate ((IntKind.i64.wrap (((List.length r1.2.1) : Int) + (1 : Int)))).toNat ((0 : Int), (bs []), ())))) then (within ((List.length r1.2.1) : Int) ((IntKind.i64.wrap (((List.length r1.2.1) : Int) + (1 : Int)))).toNat (bif (Nat.ble ((((List.length r1.2.1) : Int)).toNat + 1) (List.length (putL (List.replicate ((IntKind.i64.wrap (((List.length r1.2.1) : Int) + (1 : Int)))).toNat ((0 : Int), (bs []), ())) (List.take ((IntKind.i64.wrap (((List.length r1.2.1) : Int) + (1 : Int)))).toNat (List.drop 0 (List.take (((List.length r1.2.1) : Int)).toNat r1.2.1))) 0))) then (bif (decide ((0 : Int) ≤ (IntKind.i64.wrap (((List.length r1.2.1) : Int) + (1 : Int))))) then (bif (decide ((IntKind.i64.wrap (((List.length r1.2.1) : Int) + (1 : Int))) ≤ ((((IntKind.i64.wrap (((List.length r1.2.1) : Int) + (1 : Int)))).toNat : Nat) : Int))) then (bif (decide ((0 : Int) ≤ ((List.length r1.2.1) : Int))) then (bif (decide (((List.length r1.2.1) : Int) ≤ (((List.length r1.2.1) : Nat) : Int))) then (bif (Nat.beq ((IntKind.i64.wrap (((List.length r1.2.1) : Int) + (1 : Int)))).toNat (List.length (List.set (putL (List.replicate ((IntKind.i64.wrap (((List.length r1.2.1) : Int) + (1 : Int)))).toNat ((0 : Int), (bs []), ())) (List.take ((IntKind.i64.wrap (((List.length r1.2.1) : Int) + (1 : Int)))).toNat (List.drop 0 (List.take (((List.length r1.2.1) : Int)).toNat r1.2.1))) 0) (((List.length r1.2.1) : Int)).toNat (r2.2, text_2, ())))) then (bif (Nat.ble ((IntKind.i64.wrap (((List.length r1.2.1) : Int) + (1 : Int)))).toNat ((IntKind.i64.wrap (((List.length r1.2.1) : Int) + (1 : Int)))).toNat) then (bif (Nat.beq ((IntKind.i64.wrap (((List.length r1.2.1) : Int) + (1 : Int)))).toNat (List.length (putL (List.set (putL (List.replicate ((IntKind.i64.wrap (((List.length r1.2.1) : Int) + (1 : Int)))).toNat ((0 : Int), (bs []), ())) (List.take ((IntKind.i64.wrap (((List.length r1.2.1) : Int) + (1 : Int)))).toNat (List.drop 0 (List.take (((List.length r1.2.1) : Int)).toNat r1.2.1))) 0) (((List.length r1.2.1) : Int)).toNat (r2.2, text_2, ())) (List.take (((IntKind.i64.wrap (((List.length r1.2.1) : Int) + (1 : Int)))).toNat - ((IntKind.i64.wrap (((List.length r1.2.1) : Int) + (1 : Int)))).toNat) (List.drop (((List.length r1.2.1) : Int)).toNat (List.take (List.length r1.2.1) r1.2.1))) ((IntKind.i64.wrap (((List.length r1.2.1) : Int) + (1 : Int)))).toNat))) then (kr0 (m_0.1, (putL (List.set (putL (List.replicate ((IntKind.i64.wrap (((List.length r1.2.1) : Int) + (1 : Int)))).toNat ((0 : Int), (bs []), ())) (List.take ((IntKind.i64.wrap (((List.length r1.2.1) : Int) + (1 : Int)))).toNat (List.drop 0 (List.take (((List.length r1.2.1) : Int)).toNat r1.2.1))) 0) (((List.length r1.2.1) : Int)).toNat (r2.2, text_2, ())) (List.take (((IntKind.i64.wrap (((List.length r1.2.1) : Int) + (1 : Int)))).toNat - ((IntKind.i64.wrap (((List.length r1.2.1) : Int) + (1 : Int)))).toNat) (List.drop (((List.length r1.2.1) : Int)).toNat (List.take (List.length r1.2.1) r1.2.1))) ((IntKind.i64.wrap (((List.length r1.2.1) : Int) + (1 : Int)))).toNat), ())) else none) else none) else none) else none) else none) else none) else none) else none)) else none) else none) else none) else none) else none) else none) else (bif (decide ((IntKind.i64.wrap (((List.length r1.2.1) : Int) + (1 : Int))) = (IntKind.i64.wrap (((List.length r1.2.1) : Int) + (1 : Int))))) then (bif (decide ((0 : Int) ≤ (IntKind.i64.wrap (((List.length r1.2.1) : Int) + (1 : Int))))) then (bif (decide ((IntKind.i64.wrap (((List.length r1.2.1) : Int) + (1 : Int))) * 24 ≤ 140737488355328)) then (bif (decide ((0 : Int) ≤ r2.1)) then (bif (decide (r2.1 ≤ (((List.length r1.2.1) : Nat) : Int))) then (bif (Nat.beq ((IntKind.i64.wrap (((List.length r1.2.1) : Int) + (1 : Int)))).toNat (List.length (List.replicate ((IntKind.i64.wrap (((List.length r1.2.1) : Int) + (1 : Int)))).toNat ((0 : Int), (bs []), ())))) then (within r2.1 ((IntKind.i64.wrap (((List.length r1.2.1) : Int) + (1 : Int)))).toNat (bif (Nat.ble ((r2.1).toNat + 1) (List.length (putL (List.replicate ((IntKind.i64.wrap (((List.length r1.2.1) : Int) + (1 : Int)))).toNat ((0 : Int), (bs []), ())) (List.take ((IntKind.i64.wrap (((List.length r1.2.1) : Int) + (1 : Int)))).toNat (List.drop 0 (List.take (r2.1).toNat r1.2.1))) 0))) then (bif (decide ((0 : Int) ≤ (IntKind.i64.wrap (r2.1 + (1 : Int))))) then (bif (decide ((IntKind.i64.wrap (r2.1 + (1 : Int))) ≤ ((((IntKind.i64.wrap (((List.length r1.2.1) : Int) + (1 : Int)))).toNat : Nat) : Int))) then (bif (decide ((0 : Int) ≤ r2.1)) then (bif (decide (r2.1 ≤ (((List.length r1.2.1) : Nat) : Int))) then (bif (Nat.beq ((IntKind.i64.wrap (((List.length r1.2.1) : Int) + (1 : Int)))).toNat (List.length (List.set (putL (List.replicate ((IntKind.i64.wrap (((List.length r1.2.1) : Int) + (1 : Int)))).toNat ((0 : Int), (bs []), ())) (List.take ((IntKind.i64.wrap (((List.length r1.2.1) : Int) + (1 : Int)))).toNat (List.drop 0 (List.take (r2.1).toNat r1.2.1))) 0) (r2.1).toNat (r2.2, text_2, ())))) then (bif (Nat.ble ((IntKind.i64.wrap (r2.1 + (1 : Int)))).toNat ((IntKind.i64.wrap (((List.length r1.2.1) : Int) + (1 : Int)))).toNat) then (bif (Nat.beq ((IntKind.i64.wrap (((List.length r1.2.1) : Int) + (1 : Int)))).toNat (List.length (putL (List.set (putL (List.replicate ((IntKind.i64.wrap (((List.length r1.2.1) : Int) + (1 : Int)))).toNat ((0 : Int), (bs []), ())) (List.take ((IntKind.i64.wrap (((List.length r1.2.1) : Int) + (1 : Int)))).toNat (List.drop 0 (List.take (r2.1).toNat r1.2.1))) 0) (r2.1).toNat (r2.2, text_2, ())) (List.take (((IntKind.i64.wrap (((List.length r1.2.1) : Int) + (1 : Int)))).toNat - ((IntKind.i64.wrap (r2.1 + (1 : Int)))).toNat) (List.drop (r2.1).toNat (List.take (List.length r1.2.1) r1.2.1))) ((IntKind.i64.wrap (r2.1 + (1 : Int)))).toNat))) then (kr0 (m_0.1, (putL (List.set (putL (List.replicate ((IntKind.i64.wrap (((List.length r1.2.1) : Int) + (1 : Int)))).toNat ((0 : Int), (bs []), ())) (List.take ((IntKind.i64.wrap (((List.length r1.2.1) : Int) + (1 : Int)))).toNat (List.drop 0 (List.take (r2.1).toNat r1.2.1))) 0) (r2.1).toNat (r2.2, text_2, ())) (List.take (((IntKind.i64.wrap (((List.length r1.2.1) : Int) + (1 : Int)))).toNat - ((IntKind.i64.wrap (r2.1 + (1 : Int)))).toNat) (List.drop (r2.1).toNat (List.take (List.length r1.2.1) r1.2.1))) ((IntKind.i64.wrap (r2.1 + (1 : Int)))).toNat), ())) else none) else none) else none) else none) else none) else none) else none) else none)) else none) else none) else none) else none) else none) else none))))
theorem msg_With_s0_bind {R S : Type} (F : R → Option S) (m_0 : Zt15) (no_1 : Int) (text_2 : ByteArray) (kr0 : Zt15 → Option R) : (msg_With_s0 m_0 no_1 text_2 kr0).bind F = msg_With_s0 m_0 no_1 text_2 (fun a0 => (kr0 a0).bind F) := by
  simp only [msg_With_s0, cond_bind, within_bind, none_bind, some_bind, sum_bind, bind_bind]
def msg_With (m_0 : Zt15) (no_1 : Int) (text_2 : ByteArray) : Option Zt15 :=
  msg_With_s0 m_0 no_1 text_2 (fun a0 => some a0)
end Groat
set_option linter.unusedVariables false
set_option linter.unusedSimpArgs false
set_option maxRecDepth 100000
namespace Groat
open Go Go.Ref
def xlate_typed_s0 {R : Type} (p_0 : Zt8) (a_1 : Zt16) (b_2 : Zt16) (kr0 : Bool → Option R) : Option R :=
  ((mti_Version p_0.1).bind fun r1 => ((mti_Version p_0.2.1).bind fun r2 => (bif r1.2 then (bif r2.2 then (bif (decide (r1.1 = a_1.2.1)) then (bif (decide (r2.1 = b_2.2.1)) then ((mti_Request p_0.1).bind fun r3 => ((mti_Request p_0.2.1).bind fun r4 => (kr0 (r3 == r4)))) else (kr0 false)) else (kr0 false)) else (kr0 false)) else (kr0 false))))
theorem xlate_typed_s0_bind {R S : Type} (F : R → Option S) (p_0 : Zt8) (a_1 : Zt16) (b_2 : Zt16) (kr0 : Bool → Option R) : (xlate_typed_s0 p_0 a_1 b_2 kr0).bind F = xlate_typed_s0 p_0 a_1 b_2 (fun a0 => (kr0 a0).bind F) := by
  simp only [xlate_typed_s0, cond_bind, within_bind, none_bind, some_bind, sum_bind, bind_bind]
def xlate_typed (p_0 : Zt8) (a_1 : Zt16) (b_2 : Zt16) : Option Bool :=
  xlate_typed_s0 p_0 a_1 b_2 (fun a0 => some a0)
def xlate_Check_s0 {R : Type} (m_0 : Zt22) (a_1 : Zt16) (b_2 : Zt16) (go0 : Zt17 → Int → Int → Zt22 → Zt16 → Zt16 → Option R) : Option R :=
  (go0 ([a_1, b_2] : List Zt16) ((List.length ([a_1, b_2] : List Zt16)) : Int) (0 : Int) m_0 a_1 b_2)
theorem xlate_Check_s0_bind {R S : Type} (F : R → Option S) (m_0 : Zt22) (a_1 : Zt16) (b_2 : Zt16) (go0 : Zt17 → Int → Int → Zt22 → Zt16 → Zt16 → Option R) : (xlate_Check_s0 m_0 a_1 b_2 go0).bind F = xlate_Check_s0 m_0 a_1 b_2 (fun a0 a1 a2 a3 a4 a5 => (go0 a0 a1 a2 a3 a4 a5).bind F) := by
  simp only [xlate_Check_s0, cond_bind, within_bind, none_bind, some_bind, sum_bind, bind_bind]
def xlate_Check_s1 {R : Type} (t26 : Zt17) (t27 : Int) (t28 : Int) (bt3 : Zt22) (bt4 : Zt16) (bt5 : Zt16) (ex0_0 : Int → Int → Int → Zt22 → Zt16 → Zt16 → Option R) (nx0 : Zt17 → Int → Int → Zt22 → Zt16 → Zt16 → Option R) (ex0_1 : Zt22 → Zt16 → Zt16 → Option R) : Option R :=
  (bif (decide (t28 < t27)) then (within t28 (List.length t26) ((schema_Check (List.getD t26 (t28).toNat ((0 : Int), (0 : Int), ([] : List Zt11), ()))).bind fun r1 => (bif (!(decide (r1.1 = (0 : Int)))) then (ex0_0 (1 : Int) (1 : Int) t28 bt3 bt4 bt5) else (nx0 t26 t27 (IntKind.i64.wrap (t28 + (1 : Int))) bt3 bt4 bt5)))) else (ex0_1 bt3 bt4 bt5))
theorem xlate_Check_s1_bind {R S : Type} (F : R → Option S) (t26 : Zt17) (t27 : Int) (t28 : Int) (bt3 : Zt22) (bt4 : Zt16) (bt5 : Zt16) (ex0_0 : Int → Int → Int → Zt22 → Zt16 → Zt16 → Option R) (nx0 : Zt17 → Int → Int → Zt22 → Zt16 → Zt16 → Option R) (ex0_1 : Zt22 → Zt16 → Zt16 → Option R) : (xlate_Check_s1 t26 t27 t28 bt3 bt4 bt5 ex0_0 nx0 ex0_1).bind F = xlate_Check_s1 t26 t27 t28 bt3 bt4 bt5 (fun a0 a1 a2 a3 a4 a5 => (ex0_0 a0 a1 a2 a3 a4 a5).bind F) (fun a0 a1 a2 a3 a4 a5 => (nx0 a0 a1 a2 a3 a4 a5).bind F) (fun a0 a1 a2 => (ex0_1 a0 a1 a2).bind F) := by
  simp only [xlate_Check_s1, cond_bind, within_bind, none_bind, some_bind, sum_bind, bind_bind]
def xlate_Check_s2 {R : Type} (t6 : Int) (t7 : Int) (t8 : Int) (bt3 : Zt22) (bt4 : Zt16) (bt5 : Zt16) (kr0 : Int → Int → Int → Option R) : Option R :=
  (kr0 t6 t7 t8)
theorem xlate_Check_s2_bind {R S : Type} (F : R → Option S) (t6 : Int) (t7 : Int) (t8 : Int) (bt3 : Zt22) (bt4 : Zt16) (bt5 : Zt16) (kr0 : Int → Int → Int → Option R) : (xlate_Check_s2 t6 t7 t8 bt3 bt4 bt5 kr0).bind F = xlate_Check_s2 t6 t7 t8 bt3 bt4 bt5 (fun a0 a1 a2 => (kr0 a0 a1 a2).bind F) := by
  simp only [xlate_Check_s2, cond_bind, within_bind, none_bind, some_bind, sum_bind, bind_bind]
def xlate_Check_s3 {R : Type} (bt3 : Zt22) (bt4 : Zt16) (bt5 : Zt16) (kr0 : Int → Int → Int → Option R) (go1 : Zt12 → Int → Int → Zt22 → Zt16 → Zt16 → Zt7 → Option R) : Option R :=
  (bif (decide ((256 : Int) < ((List.length bt3.1) : Int))) then (kr0 (5 : Int) (2 : Int) (256 : Int)) else (go1 bt3.1 ((List.length bt3.1) : Int) (0 : Int) bt3 bt4 bt5 ([] : List Zt3)))
theorem xlate_Check_s3_bind {R S : Type} (F : R → Option S) (bt3 : Zt22) (bt4 : Zt16) (bt5 : Zt16) (kr0 : Int → Int → Int → Option R) (go1 : Zt12 → Int → Int → Zt22 → Zt16 → Zt16 → Zt7 → Option R) : (xlate_Check_s3 bt3 bt4 bt5 kr0 go1).bind F = xlate_Check_s3 bt3 bt4 bt5 (fun a0 a1 a2 => (kr0 a0 a1 a2).bind F) (fun a0 a1 a2 a3 a4 a5 a6 => (go1 a0 a1 a2 a3 a4 a5 a6).bind F) := by
  simp only [xlate_Check_s3, cond_bind, within_bind, none_bind, some_bind, sum_bind, bind_bind]
def xlate_Check_s4 {R : Type} (t48 : Zt12) (t49 : Int) (t50 : Int) (bt3 : Zt22) (bt4 : Zt16) (bt5 : Zt16) (bt13 : Zt7) (ex1_0 : Int → Int → Int → Zt22 → Zt16 → Zt16 → Option R) (nx1 : Zt12 → Int → Int → Zt22 → Zt16 → Zt16 → Zt7 → Option R) (ex1_1 : Zt22 → Zt16 → Zt16 → Option R) : Option R :=
  (bif (decide (t50 < t49)) then (within t50 (List.length t48) ((xlate_typed (List.getD t48 (t50).toNat ((bs []), (bs []), ())) bt4 bt5).bind fun r2 => (bif (!r2) then (ex1_0 (7 : Int) (2 : Int) t50 bt3 bt4 bt5) else (bif (mget (eqK .str) false bt13 (List.getD t48 (t50).toNat ((bs []), (bs []), ())).1) then (ex1_0 (10 : Int) (2 : Int) t50 bt3 bt4 bt5) else (bif (mhas (eqK .str) bt13 (List.getD t48 (t50).toNat ((bs []), (bs []), ())).1) then none else (nx1 t48 t49 (IntKind.i64.wrap (t50 + (1 : Int))) bt3 bt4 bt5 (bt13 ++ [((List.getD t48 (t50).toNat ((bs []), (bs []), ())).1, true)]))))))) else (ex1_1 bt3 bt4 bt5))
theorem xlate_Check_s4_bind {R S : Type} (F : R → Option S) (t48 : Zt12) (t49 : Int) (t50 : Int) (bt3 : Zt22) (bt4 : Zt16) (bt5 : Zt16) (bt13 : Zt7) (ex1_0 : Int → Int → Int → Zt22 → Zt16 → Zt16 → Option R) (nx1 : Zt12 → Int → Int → Zt22 → Zt16 → Zt16 → Zt7 → Option R) (ex1_1 : Zt22 → Zt16 → Zt16 → Option R) : (xlate_Check_s4 t48 t49 t50 bt3 bt4 bt5 bt13 ex1_0 nx1 ex1_1).bind F = xlate_Check_s4 t48 t49 t50 bt3 bt4 bt5 bt13 (fun a0 a1 a2 a3 a4 a5 => (ex1_0 a0 a1 a2 a3 a4 a5).bind F) (fun a0 a1 a2 a3 a4 a5 a6 => (nx1 a0 a1 a2 a3 a4 a5 a6).bind F) (fun a0 a1 a2 => (ex1_1 a0 a1 a2).bind F) := by
  simp only [xlate_Check_s4, cond_bind, within_bind, none_bind, some_bind, sum_bind, bind_bind]
def xlate_Check_s5 {R : Type} (t6 : Int) (t7 : Int) (t8 : Int) (bt3 : Zt22) (bt4 : Zt16) (bt5 : Zt16) (kr0 : Int → Int → Int → Option R) : Option R :=
  (kr0 t6 t7 t8)
theorem xlate_Check_s5_bind {R S : Type} (F : R → Option S) (t6 : Int) (t7 : Int) (t8 : Int) (bt3 : Zt22) (bt4 : Zt16) (bt5 : Zt16) (kr0 : Int → Int → Int → Option R) : (xlate_Check_s5 t6 t7 t8 bt3 bt4 bt5 kr0).bind F = xlate_Check_s5 t6 t7 t8 bt3 bt4 bt5 (fun a0 a1 a2 => (kr0 a0 a1 a2).bind F) := by
  simp only [xlate_Check_s5, cond_bind, within_bind, none_bind, some_bind, sum_bind, bind_bind]
def xlate_Check_s6 {R : Type} (bt3 : Zt22) (bt4 : Zt16) (bt5 : Zt16) (kr0 : Int → Int → Int → Option R) (go2 : Zt20 → Int → Int → Zt16 → Zt16 → Zt4 → Zt4 → Option R) : Option R :=
  (bif (decide ((256 : Int) < ((List.length bt3.2.1) : Int))) then (kr0 (5 : Int) (3 : Int) (256 : Int)) else (go2 bt3.2.1 ((List.length bt3.2.1) : Int) (0 : Int) bt4 bt5 ((0 : Int), (0 : Int), ()) ((0 : Int), (0 : Int), ())))
theorem xlate_Check_s6_bind {R S : Type} (F : R → Option S) (bt3 : Zt22) (bt4 : Zt16) (bt5 : Zt16) (kr0 : Int → Int → Int → Option R) (go2 : Zt20 → Int → Int → Zt16 → Zt16 → Zt4 → Zt4 → Option R) : (xlate_Check_s6 bt3 bt4 bt5 kr0 go2).bind F = xlate_Check_s6 bt3 bt4 bt5 (fun a0 a1 a2 => (kr0 a0 a1 a2).bind F) (fun a0 a1 a2 a3 a4 a5 a6 => (go2 a0 a1 a2 a3 a4 a5 a6).bind F) := by
  simp only [xlate_Check_s6, cond_bind, within_bind, none_bind, some_bind, sum_bind, bind_bind]
def xlate_Check_s7 {R : Type} (t77 : Zt20) (t78 : Int) (t79 : Int) (bt4 : Zt16) (bt5 : Zt16) (bt16 : Zt4) (bt17 : Zt4) (ex2_0 : Int → Int → Int → Option R) (nx2 : Zt20 → Int → Int → Zt16 → Zt16 → Zt4 → Zt4 → Option R) (ex2_1 : Option R) : Option R :=
  (bif (decide (t79 < t78)) then (within t79 (List.length t77) ((rule_Check (List.getD t77 (t79).toNat ((0 : Int), (0 : Int), (0 : Int), (bs []), ([] : List Zt8), ())) bt4 bt5).bind fun r3 => (bif (!(decide (r3 = (0 : Int)))) then (ex2_0 r3 (3 : Int) t79) else ((fields_Of ([(List.getD t77 (t79).toNat ((0 : Int), (0 : Int), (0 : Int), (bs []), ([] : List Zt8), ())).2.1] : List Int)).bind fun r4 => ((fields_Of ([(List.getD t77 (t79).toNat ((0 : Int), (0 : Int), (0 : Int), (bs []), ([] : List Zt8), ())).2.2.1] : List Int)).bind fun r5 => ((fields_Set_Both bt16 r4).bind fun r6 => (bif (!((decide (r6.1 = (0 : Int))) && ((decide (r6.2.1 = (0 : Int))) && true))) then (ex2_0 (10 : Int) (3 : Int) t79) else ((fields_Set_Both bt17 r5).bind fun r7 => (bif (!((decide (r7.1 = (0 : Int))) && ((decide (r7.2.1 = (0 : Int))) && true))) then (ex2_0 (10 : Int) (3 : Int) t79) else ((fields_Set_Either bt16 r4).bind fun r8 => ((fields_Set_Either bt17 r5).bind fun r9 => (nx2 t77 t78 (IntKind.i64.wrap (t79 + (1 : Int))) bt4 bt5 r8 r9)))))))))))) else (ex2_1))
theorem xlate_Check_s7_bind {R S : Type} (F : R → Option S) (t77 : Zt20) (t78 : Int) (t79 : Int) (bt4 : Zt16) (bt5 : Zt16) (bt16 : Zt4) (bt17 : Zt4) (ex2_0 : Int → Int → Int → Option R) (nx2 : Zt20 → Int → Int → Zt16 → Zt16 → Zt4 → Zt4 → Option R) (ex2_1 : Option R) : (xlate_Check_s7 t77 t78 t79 bt4 bt5 bt16 bt17 ex2_0 nx2 ex2_1).bind F = xlate_Check_s7 t77 t78 t79 bt4 bt5 bt16 bt17 (fun a0 a1 a2 => (ex2_0 a0 a1 a2).bind F) (fun a0 a1 a2 a3 a4 a5 a6 => (nx2 a0 a1 a2 a3 a4 a5 a6).bind F) ((ex2_1).bind F) := by
  simp only [xlate_Check_s7, cond_bind, within_bind, none_bind, some_bind, sum_bind, bind_bind]
def xlate_Check_s8 {R : Type} (t6 : Int) (t7 : Int) (t8 : Int) (kr0 : Int → Int → Int → Option R) : Option R :=
  (kr0 t6 t7 t8)
theorem xlate_Check_s8_bind {R S : Type} (F : R → Option S) (t6 : Int) (t7 : Int) (t8 : Int) (kr0 : Int → Int → Int → Option R) : (xlate_Check_s8 t6 t7 t8 kr0).bind F = xlate_Check_s8 t6 t7 t8 (fun a0 a1 a2 => (kr0 a0 a1 a2).bind F) := by
  simp only [xlate_Check_s8, cond_bind, within_bind, none_bind, some_bind, sum_bind, bind_bind]
def xlate_Check_s9 {R : Type}  (kr0 : Int → Int → Int → Option R) : Option R :=
  (kr0 (0 : Int) (0 : Int) (0 : Int))
theorem xlate_Check_s9_bind {R S : Type} (F : R → Option S)  (kr0 : Int → Int → Int → Option R) : (xlate_Check_s9 kr0).bind F = xlate_Check_s9 (fun a0 a1 a2 => (kr0 a0 a1 a2).bind F) := by
  simp only [xlate_Check_s9, cond_bind, within_bind, none_bind, some_bind, sum_bind, bind_bind]
def xlate_Check_l0 : Nat → Zt17 → Int → Int → Zt22 → Zt16 → Zt16 → Option (Sum Zt24 Zt23)
  | 0, _, _, _, _, _, _ => none
  | k + 1, v0, v1, v2, v3, v4, v5 => xlate_Check_s1 v0 v1 v2 v3 v4 v5 (fun a0 a1 a2 a3 a4 a5 => some (.inl (a0, a1, a2, a3, a4, a5))) (fun a0 a1 a2 a3 a4 a5 => xlate_Check_l0 k a0 a1 a2 a3 a4 a5) (fun a0 a1 a2 => some (.inr (a0, a1, a2)))
def xlate_Check_l1 : Nat → Zt12 → Int → Int → Zt22 → Zt16 → Zt16 → Zt7 → Option (Sum Zt24 Zt23)
  | 0, _, _, _, _, _, _, _ => none
  | k + 1, v0, v1, v2, v3, v4, v5, v6 => xlate_Check_s4 v0 v1 v2 v3 v4 v5 v6 (fun a0 a1 a2 a3 a4 a5 => some (.inl (a0, a1, a2, a3, a4, a5))) (fun a0 a1 a2 a3 a4 a5 a6 => xlate_Check_l1 k a0 a1 a2 a3 a4 a5 a6) (fun a0 a1 a2 => some (.inr (a0, a1, a2)))
def xlate_Check_l2 : Nat → Zt20 → Int → Int → Zt16 → Zt16 → Zt4 → Zt4 → Option (Sum Zt0 Unit)
  | 0, _, _, _, _, _, _, _ => none
  | k + 1, v0, v1, v2, v3, v4, v5, v6 => xlate_Check_s7 v0 v1 v2 v3 v4 v5 v6 (fun a0 a1 a2 => some (.inl (a0, a1, a2))) (fun a0 a1 a2 a3 a4 a5 a6 => xlate_Check_l2 k a0 a1 a2 a3 a4 a5 a6) (some (.inr ()))
def xlate_Check (m_0 : Zt22) (a_1 : Zt16) (b_2 : Zt16) : Option Zt0 :=
  xlate_Check_s0 m_0 a_1 b_2 (fun a0 a1 a2 a3 a4 a5 => (xlate_Check_l0 FUEL a0 a1 a2 a3 a4 a5).bind fun e => (Sum.elim (fun (we : Zt24) => xlate_Check_s2 we.1 we.2.1 we.2.2.1 we.2.2.2.1 we.2.2.2.2.1 we.2.2.2.2.2 (fun a0 a1 a2 => some (a0, a1, a2))) (fun (we : Zt23) => xlate_Check_s3 we.1 we.2.1 we.2.2 (fun a0 a1 a2 => some (a0, a1, a2)) (fun a0 a1 a2 a3 a4 a5 a6 => (xlate_Check_l1 FUEL a0 a1 a2 a3 a4 a5 a6).bind fun e => (Sum.elim (fun (we : Zt24) => xlate_Check_s5 we.1 we.2.1 we.2.2.1 we.2.2.2.1 we.2.2.2.2.1 we.2.2.2.2.2 (fun a0 a1 a2 => some (a0, a1, a2))) (fun (we : Zt23) => xlate_Check_s6 we.1 we.2.1 we.2.2 (fun a0 a1 a2 => some (a0, a1, a2)) (fun a0 a1 a2 a3 a4 a5 a6 => (xlate_Check_l2 FUEL a0 a1 a2 a3 a4 a5 a6).bind fun e => (Sum.elim (fun (we : Zt0) => xlate_Check_s8 we.1 we.2.1 we.2.2 (fun a0 a1 a2 => some (a0, a1, a2))) (fun (we : Unit) => xlate_Check_s9 (fun a0 a1 a2 => some (a0, a1, a2))) e))) e))) e))
def xlate_head_s0 {R : Type} (m_0 : Zt22) (t_1 : ByteArray) (go0 : ByteArray → Zt12 → Int → Int → Option R) : Option R :=
  (go0 t_1 m_0.1 ((List.length m_0.1) : Int) (0 : Int))
theorem xlate_head_s0_bind {R S : Type} (F : R → Option S) (m_0 : Zt22) (t_1 : ByteArray) (go0 : ByteArray → Zt12 → Int → Int → Option R) : (xlate_head_s0 m_0 t_1 go0).bind F = xlate_head_s0 m_0 t_1 (fun a0 a1 a2 a3 => (go0 a0 a1 a2 a3).bind F) := by
  simp only [xlate_head_s0, cond_bind, within_bind, none_bind, some_bind, sum_bind, bind_bind]
def xlate_head_s1 {R : Type} (t_1 : ByteArray) (t9 : Zt12) (t10 : Int) (t11 : Int) (ex0_0 : ByteArray → Bool → Option R) (nx0 : ByteArray → Zt12 → Int → Int → Option R) (ex0_1 : Option R) : Option R :=
  (bif (decide (t11 < t10)) then (within t11 (List.length t9) (bif (decide ((List.getD t9 (t11).toNat ((bs []), (bs []), ())).1 = t_1)) then (ex0_0 (List.getD t9 (t11).toNat ((bs []), (bs []), ())).2.1 true) else (nx0 t_1 t9 t10 (IntKind.i64.wrap (t11 + (1 : Int)))))) else (ex0_1))
theorem xlate_head_s1_bind {R S : Type} (F : R → Option S) (t_1 : ByteArray) (t9 : Zt12) (t10 : Int) (t11 : Int) (ex0_0 : ByteArray → Bool → Option R) (nx0 : ByteArray → Zt12 → Int → Int → Option R) (ex0_1 : Option R) : (xlate_head_s1 t_1 t9 t10 t11 ex0_0 nx0 ex0_1).bind F = xlate_head_s1 t_1 t9 t10 t11 (fun a0 a1 => (ex0_0 a0 a1).bind F) (fun a0 a1 a2 a3 => (nx0 a0 a1 a2 a3).bind F) ((ex0_1).bind F) := by
  simp only [xlate_head_s1, cond_bind, within_bind, none_bind, some_bind, sum_bind, bind_bind]
def xlate_head_s2 {R : Type} (t4 : ByteArray) (t5 : Bool) (kr0 : ByteArray → Bool → Option R) : Option R :=
  (kr0 t4 t5)
theorem xlate_head_s2_bind {R S : Type} (F : R → Option S) (t4 : ByteArray) (t5 : Bool) (kr0 : ByteArray → Bool → Option R) : (xlate_head_s2 t4 t5 kr0).bind F = xlate_head_s2 t4 t5 (fun a0 a1 => (kr0 a0 a1).bind F) := by
  simp only [xlate_head_s2, cond_bind, within_bind, none_bind, some_bind, sum_bind, bind_bind]
def xlate_head_s3 {R : Type}  (kr0 : ByteArray → Bool → Option R) : Option R :=
  (kr0 (bs []) false)
theorem xlate_head_s3_bind {R S : Type} (F : R → Option S)  (kr0 : ByteArray → Bool → Option R) : (xlate_head_s3 kr0).bind F = xlate_head_s3 (fun a0 a1 => (kr0 a0 a1).bind F) := by
  simp only [xlate_head_s3, cond_bind, within_bind, none_bind, some_bind, sum_bind, bind_bind]
def xlate_head_l0 : Nat → ByteArray → Zt12 → Int → Int → Option (Sum Zt3 Unit)
  | 0, _, _, _, _ => none
  | k + 1, v0, v1, v2, v3 => xlate_head_s1 v0 v1 v2 v3 (fun a0 a1 => some (.inl (a0, a1))) (fun a0 a1 a2 a3 => xlate_head_l0 k a0 a1 a2 a3) (some (.inr ()))
def xlate_head (m_0 : Zt22) (t_1 : ByteArray) : Option Zt3 :=
  xlate_head_s0 m_0 t_1 (fun a0 a1 a2 a3 => (xlate_head_l0 FUEL a0 a1 a2 a3).bind fun e => (Sum.elim (fun (we : Zt3) => xlate_head_s2 we.1 we.2 (fun a0 a1 => some (a0, a1))) (fun (we : Unit) => xlate_head_s3 (fun a0 a1 => some (a0, a1))) e))
def xlate_find_s0 {R : Type} (m_0 : Zt22) (no_1 : Int) (go0 : Int → Zt20 → Int → Int → Zt18 → Option R) : Option R :=
  (go0 no_1 m_0.2.1 ((List.length m_0.2.1) : Int) (0 : Int) ((0 : Int), (0 : Int), (0 : Int), (bs []), ([] : List Zt8), ()))
theorem xlate_find_s0_bind {R S : Type} (F : R → Option S) (m_0 : Zt22) (no_1 : Int) (go0 : Int → Zt20 → Int → Int → Zt18 → Option R) : (xlate_find_s0 m_0 no_1 go0).bind F = xlate_find_s0 m_0 no_1 (fun a0 a1 a2 a3 a4 => (go0 a0 a1 a2 a3 a4).bind F) := by
  simp only [xlate_find_s0, cond_bind, within_bind, none_bind, some_bind, sum_bind, bind_bind]
def xlate_find_s1 {R : Type} (no_1 : Int) (t9 : Zt20) (t10 : Int) (t11 : Int) (bt4 : Zt18) (ex0_0 : Bool → Zt18 → Option R) (nx0 : Int → Zt20 → Int → Int → Zt18 → Option R) (ex0_1 : Zt18 → Option R) : Option R :=
  (bif (decide (t11 < t10)) then (within t11 (List.length t9) (bif (decide ((List.getD t9 (t11).toNat ((0 : Int), (0 : Int), (0 : Int), (bs []), ([] : List Zt8), ())).2.1 = no_1)) then (ex0_0 true (List.getD t9 (t11).toNat ((0 : Int), (0 : Int), (0 : Int), (bs []), ([] : List Zt8), ()))) else (nx0 no_1 t9 t10 (IntKind.i64.wrap (t11 + (1 : Int))) bt4))) else (ex0_1 bt4))
theorem xlate_find_s1_bind {R S : Type} (F : R → Option S) (no_1 : Int) (t9 : Zt20) (t10 : Int) (t11 : Int) (bt4 : Zt18) (ex0_0 : Bool → Zt18 → Option R) (nx0 : Int → Zt20 → Int → Int → Zt18 → Option R) (ex0_1 : Zt18 → Option R) : (xlate_find_s1 no_1 t9 t10 t11 bt4 ex0_0 nx0 ex0_1).bind F = xlate_find_s1 no_1 t9 t10 t11 bt4 (fun a0 a1 => (ex0_0 a0 a1).bind F) (fun a0 a1 a2 a3 a4 => (nx0 a0 a1 a2 a3 a4).bind F) (fun a0 => (ex0_1 a0).bind F) := by
  simp only [xlate_find_s1, cond_bind, within_bind, none_bind, some_bind, sum_bind, bind_bind]
def xlate_find_s2 {R : Type} (t5 : Bool) (bt4 : Zt18) (kr0 : Zt18 → Bool → Option R) : Option R :=
  (kr0 bt4 t5)
theorem xlate_find_s2_bind {R S : Type} (F : R → Option S) (t5 : Bool) (bt4 : Zt18) (kr0 : Zt18 → Bool → Option R) : (xlate_find_s2 t5 bt4 kr0).bind F = xlate_find_s2 t5 bt4 (fun a0 a1 => (kr0 a0 a1).bind F) := by
  simp only [xlate_find_s2, cond_bind, within_bind, none_bind, some_bind, sum_bind, bind_bind]
def xlate_find_s3 {R : Type} (bt4 : Zt18) (kr0 : Zt18 → Bool → Option R) : Option R :=
  (kr0 ((0 : Int), (0 : Int), (0 : Int), (bs []), ([] : List Zt8), ()) false)
theorem xlate_find_s3_bind {R S : Type} (F : R → Option S) (bt4 : Zt18) (kr0 : Zt18 → Bool → Option R) : (xlate_find_s3 bt4 kr0).bind F = xlate_find_s3 bt4 (fun a0 a1 => (kr0 a0 a1).bind F) := by
  simp only [xlate_find_s3, cond_bind, within_bind, none_bind, some_bind, sum_bind, bind_bind]
def xlate_find_l0 : Nat → Int → Zt20 → Int → Int → Zt18 → Option (Sum (Bool × Zt18) Zt18)
  | 0, _, _, _, _, _ => none
  | k + 1, v0, v1, v2, v3, v4 => xlate_find_s1 v0 v1 v2 v3 v4 (fun a0 a1 => some (.inl (a0, a1))) (fun a0 a1 a2 a3 a4 => xlate_find_l0 k a0 a1 a2 a3 a4) (fun a0 => some (.inr a0))
def xlate_find (m_0 : Zt22) (no_1 : Int) : Option (Zt18 × Bool) :=
  xlate_find_s0 m_0 no_1 (fun a0 a1 a2 a3 a4 => (xlate_find_l0 FUEL a0 a1 a2 a3 a4).bind fun e => (Sum.elim (fun (we : (Bool × Zt18)) => xlate_find_s2 we.1 we.2 (fun a0 a1 => some (a0, a1))) (fun (we : Zt18) => xlate_find_s3 we (fun a0 a1 => some (a0, a1))) e))
def xlate_Translate_s0 {R : Type} (m_0 : Zt22) (a_1 : Zt16) (b_2 : Zt16) (x_3 : Zt15) (kr0 : Zt15 → Zt4 → Option R) (go0 : Zt20 → Int → Int → Zt22 → Zt16 → Zt15 → Zt15 → Zt4 → Zt15 → Option R) : Option R :=
  ((xlate_Check m_0 a_1 b_2).bind fun r1 => (bif (!(decide (r1.1 = (0 : Int)))) then (kr0 ((bs []), ([] : List Zt6), ()) ((1 : Int), (-1 : Int), ())) else ((msg_Check a_1 x_3).bind fun r2 => (bif (!(decide (r2.1 = (0 : Int)))) then (kr0 ((bs []), ([] : List Zt6), ()) r2) else ((xlate_head m_0 x_3.1).bind fun r3 => (bif (!r3.2) then (kr0 ((bs []), ([] : List Zt6), ()) ((7 : Int), (0 : Int), ())) else (go0 m_0.2.1 ((List.length m_0.2.1) : Int) (0 : Int) m_0 b_2 x_3 ((bs []), ([] : List Zt6), ()) ((0 : Int), (0 : Int), ()) (r3.1, ([] : List Zt6), ()))))))))
theorem xlate_Translate_s0_bind {R S : Type} (F : R → Option S) (m_0 : Zt22) (a_1 : Zt16) (b_2 : Zt16) (x_3 : Zt15) (kr0 : Zt15 → Zt4 → Option R) (go0 : Zt20 → Int → Int → Zt22 → Zt16 → Zt15 → Zt15 → Zt4 → Zt15 → Option R) : (xlate_Translate_s0 m_0 a_1 b_2 x_3 kr0 go0).bind F = xlate_Translate_s0 m_0 a_1 b_2 x_3 (fun a0 a1 => (kr0 a0 a1).bind F) (fun a0 a1 a2 a3 a4 a5 a6 a7 a8 => (go0 a0 a1 a2 a3 a4 a5 a6 a7 a8).bind F) := by
  simp only [xlate_Translate_s0, cond_bind, within_bind, none_bind, some_bind, sum_bind, bind_bind]
def xlate_Translate_s1 {R : Type} (t59 : Zt20) (t60 : Int) (t61 : Int) (bt4 : Zt22) (bt6 : Zt16) (bt7 : Zt15) (bt8 : Zt15) (bt9 : Zt4) (bt16 : Zt15) (nx0 : Zt20 → Int → Int → Zt22 → Zt16 → Zt15 → Zt15 → Zt4 → Zt15 → Option R) (ex0_0 : Zt22 → Zt16 → Zt15 → Zt15 → Zt4 → Zt15 → Option R) : Option R :=
  (bif (decide (t61 < t60)) then (within t61 (List.length t59) (bif (decide ((List.getD t59 (t61).toNat ((0 : Int), (0 : Int), (0 : Int), (bs []), ([] : List Zt8), ())).1 = (3 : Int))) then ((msg_With bt16 (List.getD t59 (t61).toNat ((0 : Int), (0 : Int), (0 : Int), (bs []), ([] : List Zt8), ())).2.2.1 (List.getD t59 (t61).toNat ((0 : Int), (0 : Int), (0 : Int), (bs []), ([] : List Zt8), ())).2.2.2.1).bind fun r4 => (nx0 t59 t60 (IntKind.i64.wrap (t61 + (1 : Int))) bt4 bt6 bt7 bt8 bt9 r4)) else (nx0 t59 t60 (IntKind.i64.wrap (t61 + (1 : Int))) bt4 bt6 bt7 bt8 bt9 bt16))) else (ex0_0 bt4 bt6 bt7 bt8 bt9 bt16))
theorem xlate_Translate_s1_bind {R S : Type} (F : R → Option S) (t59 : Zt20) (t60 : Int) (t61 : Int) (bt4 : Zt22) (bt6 : Zt16) (bt7 : Zt15) (bt8 : Zt15) (bt9 : Zt4) (bt16 : Zt15) (nx0 : Zt20 → Int → Int → Zt22 → Zt16 → Zt15 → Zt15 → Zt4 → Zt15 → Option R) (ex0_0 : Zt22 → Zt16 → Zt15 → Zt15 → Zt4 → Zt15 → Option R) : (xlate_Translate_s1 t59 t60 t61 bt4 bt6 bt7 bt8 bt9 bt16 nx0 ex0_0).bind F = xlate_Translate_s1 t59 t60 t61 bt4 bt6 bt7 bt8 bt9 bt16 (fun a0 a1 a2 a3 a4 a5 a6 a7 a8 => (nx0 a0 a1 a2 a3 a4 a5 a6 a7 a8).bind F) (fun a0 a1 a2 a3 a4 a5 => (ex0_0 a0 a1 a2 a3 a4 a5).bind F) := by
  simp only [xlate_Translate_s1, cond_bind, within_bind, none_bind, some_bind, sum_bind, bind_bind]
def xlate_Translate_s2 {R : Type} (bt4 : Zt22) (bt6 : Zt16) (bt7 : Zt15) (bt8 : Zt15) (bt9 : Zt4) (bt16 : Zt15) (go1 : Zt9 → Int → Int → Zt22 → Zt16 → Zt15 → Zt4 → Zt15 → Option R) : Option R :=
  (go1 bt7.2.1 ((List.length bt7.2.1) : Int) (0 : Int) bt4 bt6 bt8 bt9 bt16)
theorem xlate_Translate_s2_bind {R S : Type} (F : R → Option S) (bt4 : Zt22) (bt6 : Zt16) (bt7 : Zt15) (bt8 : Zt15) (bt9 : Zt4) (bt16 : Zt15) (go1 : Zt9 → Int → Int → Zt22 → Zt16 → Zt15 → Zt4 → Zt15 → Option R) : (xlate_Translate_s2 bt4 bt6 bt7 bt8 bt9 bt16 go1).bind F = xlate_Translate_s2 bt4 bt6 bt7 bt8 bt9 bt16 (fun a0 a1 a2 a3 a4 a5 a6 a7 => (go1 a0 a1 a2 a3 a4 a5 a6 a7).bind F) := by
  simp only [xlate_Translate_s2, cond_bind, within_bind, none_bind, some_bind, sum_bind, bind_bind]
def xlate_Translate_s3 {R : Type} (t76 : Zt9) (t77 : Int) (t78 : Int) (bt4 : Zt22) (bt6 : Zt16) (bt8 : Zt15) (bt9 : Zt4) (bt16 : Zt15) (ex1_0 : Zt15 → Zt4 → Zt15 → Option R) (nx1 : Zt9 → Int → Int → Zt22 → Zt16 → Zt15 → Zt4 → Zt15 → Option R) (ex1_1 : Zt15 → Zt4 → Zt15 → Option R) : Option R :=
  (bif (decide (t78 < t77)) then (within t78 (List.length t76) ((xlate_find bt4 (List.getD t76 (t78).toNat ((0 : Int), (bs []), ())).1).bind fun r5 => (bif (!r5.2) then (ex1_0 ((bs []), ([] : List Zt6), ()) ((9 : Int), (List.getD t76 (t78).toNat ((0 : Int), (bs []), ())).1, ()) bt16) else ((rule_Apply r5.1 bt6 (List.getD t76 (t78).toNat ((0 : Int), (bs []), ())).2.1).bind fun r6 => (bif (!(decide (r6.2 = (0 : Int)))) then (ex1_0 ((bs []), ([] : List Zt6), ()) (r6.2, (List.getD t76 (t78).toNat ((0 : Int), (bs []), ())).1, ()) bt16) else (bif (!(decide (r6.1.1 = (0 : Int)))) then ((msg_With bt16 r6.1.1 r6.1.2.1).bind fun r7 => (nx1 t76 t77 (IntKind.i64.wrap (t78 + (1 : Int))) bt4 bt6 bt8 bt9 r7)) else (nx1 t76 t77 (IntKind.i64.wrap (t78 + (1 : Int))) bt4 bt6 bt8 bt9 bt16))))))) else (ex1_1 bt8 bt9 bt16))
theorem xlate_Translate_s3_bind {R S : Type} (F : R → Option S) (t76 : Zt9) (t77 : Int) (t78 : Int) (bt4 : Zt22) (bt6 : Zt16) (bt8 : Zt15) (bt9 : Zt4) (bt16 : Zt15) (ex1_0 : Zt15 → Zt4 → Zt15 → Option R) (nx1 : Zt9 → Int → Int → Zt22 → Zt16 → Zt15 → Zt4 → Zt15 → Option R) (ex1_1 : Zt15 → Zt4 → Zt15 → Option R) : (xlate_Translate_s3 t76 t77 t78 bt4 bt6 bt8 bt9 bt16 ex1_0 nx1 ex1_1).bind F = xlate_Translate_s3 t76 t77 t78 bt4 bt6 bt8 bt9 bt16 (fun a0 a1 a2 => (ex1_0 a0 a1 a2).bind F) (fun a0 a1 a2 a3 a4 a5 a6 a7 => (nx1 a0 a1 a2 a3 a4 a5 a6 a7).bind F) (fun a0 a1 a2 => (ex1_1 a0 a1 a2).bind F) := by
  simp only [xlate_Translate_s3, cond_bind, within_bind, none_bind, some_bind, sum_bind, bind_bind]
def xlate_Translate_s4 {R : Type} (bt8 : Zt15) (bt9 : Zt4) (bt16 : Zt15) (kr0 : Zt15 → Zt4 → Option R) : Option R :=
  (kr0 bt8 bt9)
theorem xlate_Translate_s4_bind {R S : Type} (F : R → Option S) (bt8 : Zt15) (bt9 : Zt4) (bt16 : Zt15) (kr0 : Zt15 → Zt4 → Option R) : (xlate_Translate_s4 bt8 bt9 bt16 kr0).bind F = xlate_Translate_s4 bt8 bt9 bt16 (fun a0 a1 => (kr0 a0 a1).bind F) := by
  simp only [xlate_Translate_s4, cond_bind, within_bind, none_bind, some_bind, sum_bind, bind_bind]
def xlate_Translate_s5 {R : Type} (bt8 : Zt15) (bt9 : Zt4) (bt16 : Zt15) (kr0 : Zt15 → Zt4 → Option R) : Option R :=
  (kr0 bt16 ((0 : Int), (0 : Int), ()))
theorem xlate_Translate_s5_bind {R S : Type} (F : R → Option S) (bt8 : Zt15) (bt9 : Zt4) (bt16 : Zt15) (kr0 : Zt15 → Zt4 → Option R) : (xlate_Translate_s5 bt8 bt9 bt16 kr0).bind F = xlate_Translate_s5 bt8 bt9 bt16 (fun a0 a1 => (kr0 a0 a1).bind F) := by
  simp only [xlate_Translate_s5, cond_bind, within_bind, none_bind, some_bind, sum_bind, bind_bind]
def xlate_Translate_l0 : Nat → Zt20 → Int → Int → Zt22 → Zt16 → Zt15 → Zt15 → Zt4 → Zt15 → Option (Zt22 × Zt16 × Zt15 × Zt15 × Zt4 × Zt15)
  | 0, _, _, _, _, _, _, _, _, _ => none
  | k + 1, v0, v1, v2, v3, v4, v5, v6, v7, v8 => xlate_Translate_s1 v0 v1 v2 v3 v4 v5 v6 v7 v8 (fun a0 a1 a2 a3 a4 a5 a6 a7 a8 => xlate_Translate_l0 k a0 a1 a2 a3 a4 a5 a6 a7 a8) (fun a0 a1 a2 a3 a4 a5 => some (a0, a1, a2, a3, a4, a5))
def xlate_Translate_l1 : Nat → Zt9 → Int → Int → Zt22 → Zt16 → Zt15 → Zt4 → Zt15 → Option (Sum Zt21 Zt21)
  | 0, _, _, _, _, _, _, _, _ => none
  | k + 1, v0, v1, v2, v3, v4, v5, v6, v7 => xlate_Translate_s3 v0 v1 v2 v3 v4 v5 v6 v7 (fun a0 a1 a2 => some (.inl (a0, a1, a2))) (fun a0 a1 a2 a3 a4 a5 a6 a7 => xlate_Translate_l1 k a0 a1 a2 a3 a4 a5 a6 a7) (fun a0 a1 a2 => some (.inr (a0, a1, a2)))
def xlate_Translate (m_0 : Zt22) (a_1 : Zt16) (b_2 : Zt16) (x_3 : Zt15) : Option (Zt15 × Zt4) :=
  xlate_Translate_s0 m_0 a_1 b_2 x_3 (fun a0 a1 => some (a0, a1)) (fun a0 a1 a2 a3 a4 a5 a6 a7 a8 => (xlate_Translate_l0 FUEL a0 a1 a2 a3 a4 a5 a6 a7 a8).bind fun e => xlate_Translate_s2 e.1 e.2.1 e.2.2.1 e.2.2.2.1 e.2.2.2.2.1 e.2.2.2.2.2 (fun a0 a1 a2 a3 a4 a5 a6 a7 => (xlate_Translate_l1 FUEL a0 a1 a2 a3 a4 a5 a6 a7).bind fun e => (Sum.elim (fun (we : Zt21) => xlate_Translate_s4 we.1 we.2.1 we.2.2 (fun a0 a1 => some (a0, a1))) (fun (we : Zt21) => xlate_Translate_s5 we.1 we.2.1 we.2.2 (fun a0 a1 => some (a0, a1))) e)))
end Groat
set_option linter.unusedVariables false
set_option linter.unusedSimpArgs false
set_option maxRecDepth 100000
namespace Groat
open Go Go.Ref
def invert_Turn_s0 {R : Type} (m_0 : Zt22) (go0 : Zt20 → Int → Int → Zt22 → Zt22 → Option R) : Option R :=
  ((codes_Turn m_0.1).bind fun r1 => (go0 m_0.2.1 ((List.length m_0.2.1) : Int) (0 : Int) (([] : List Zt8), ([] : List Zt18), ()) (r1, ([] : List Zt18), ())))
theorem invert_Turn_s0_bind {R S : Type} (F : R → Option S) (m_0 : Zt22) (go0 : Zt20 → Int → Int → Zt22 → Zt22 → Option R) : (invert_Turn_s0 m_0 go0).bind F = invert_Turn_s0 m_0 (fun a0 a1 a2 a3 a4 => (go0 a0 a1 a2 a3 a4).bind F) := by
  simp only [invert_Turn_s0, cond_bind, within_bind, none_bind, some_bind, sum_bind, bind_bind]
def invert_Turn_s1 {R : Type} (t11 : Zt20) (t12 : Int) (t13 : Int) (bt2 : Zt22) (bt3 : Zt22) (nx0 : Zt20 → Int → Int → Zt22 → Zt22 → Option R) (ex0_0 : Zt22 → Zt22 → Option R) : Option R :=
  (bif (decide (t13 < t12)) then (within t13 (List.length t11) ((codes_Turn (List.getD t11 (t13).toNat ((0 : Int), (0 : Int), (0 : Int), (bs []), ([] : List Zt8), ())).2.2.2.2.1).bind fun r2 => (bif (decide (((List.length bt3.2.1) + (List.length ([((List.getD t11 (t13).toNat ((0 : Int), (0 : Int), (0 : Int), (bs []), ([] : List Zt8), ())).1, (List.getD t11 (t13).toNat ((0 : Int), (0 : Int), (0 : Int), (bs []), ([] : List Zt8), ())).2.2.1, (List.getD t11 (t13).toNat ((0 : Int), (0 : Int), (0 : Int), (bs []), ([] : List Zt8), ())).2.1, (List.getD t11 (t13).toNat ((0 : Int), (0 : Int), (0 : Int), (bs []), ([] : List Zt8), ())).2.2.2.1, r2, ())] : List Zt18))) * 64 ≤ 140737488355328)) then (nx0 t11 t12 (IntKind.i64.wrap (t13 + (1 : Int))) bt2 (bt3.1, (bt3.2.1 ++ ([((List.getD t11 (t13).toNat ((0 : Int), (0 : Int), (0 : Int), (bs []), ([] : List Zt8), ())).1, (List.getD t11 (t13).toNat ((0 : Int), (0 : Int), (0 : Int), (bs []), ([] : List Zt8), ())).2.2.1, (List.getD t11 (t13).toNat ((0 : Int), (0 : Int), (0 : Int), (bs []), ([] : List Zt8), ())).2.1, (List.getD t11 (t13).toNat ((0 : Int), (0 : Int), (0 : Int), (bs []), ([] : List Zt8), ())).2.2.2.1, r2, ())] : List Zt18)), ())) else none))) else (ex0_0 bt2 bt3))
theorem invert_Turn_s1_bind {R S : Type} (F : R → Option S) (t11 : Zt20) (t12 : Int) (t13 : Int) (bt2 : Zt22) (bt3 : Zt22) (nx0 : Zt20 → Int → Int → Zt22 → Zt22 → Option R) (ex0_0 : Zt22 → Zt22 → Option R) : (invert_Turn_s1 t11 t12 t13 bt2 bt3 nx0 ex0_0).bind F = invert_Turn_s1 t11 t12 t13 bt2 bt3 (fun a0 a1 a2 a3 a4 => (nx0 a0 a1 a2 a3 a4).bind F) (fun a0 a1 => (ex0_0 a0 a1).bind F) := by
  simp only [invert_Turn_s1, cond_bind, within_bind, none_bind, some_bind, sum_bind, bind_bind]
def invert_Turn_s2 {R : Type} (bt2 : Zt22) (bt3 : Zt22) (kr0 : Zt22 → Option R) : Option R :=
  (kr0 bt3)
theorem invert_Turn_s2_bind {R S : Type} (F : R → Option S) (bt2 : Zt22) (bt3 : Zt22) (kr0 : Zt22 → Option R) : (invert_Turn_s2 bt2 bt3 kr0).bind F = invert_Turn_s2 bt2 bt3 (fun a0 => (kr0 a0).bind F) := by
  simp only [invert_Turn_s2, cond_bind, within_bind, none_bind, some_bind, sum_bind, bind_bind]
def invert_Turn_l0 : Nat → Zt20 → Int → Int → Zt22 → Zt22 → Option (Zt22 × Zt22)
  | 0, _, _, _, _, _ => none
  | k + 1, v0, v1, v2, v3, v4 => invert_Turn_s1 v0 v1 v2 v3 v4 (fun a0 a1 a2 a3 a4 => invert_Turn_l0 k a0 a1 a2 a3 a4) (fun a0 a1 => some (a0, a1))
def invert_Turn (m_0 : Zt22) : Option Zt22 :=
  invert_Turn_s0 m_0 (fun a0 a1 a2 a3 a4 => (invert_Turn_l0 FUEL a0 a1 a2 a3 a4).bind fun e => invert_Turn_s2 e.1 e.2 (fun a0 => some a0))
def invert_undone_s0 {R : Type} (r_0 : Zt18) (a_1 : Zt16) (b_2 : Zt16) (kr0 : Bool → Option R) : Option R :=
  ((schema_Find a_1 r_0.2.1).bind fun r1 => ((schema_Find b_2 r_0.2.2.1).bind fun r2 => (bif (decide (r_0.1 = (1 : Int))) then ((spec_Wider r1.1 r2.1).bind fun r3 => (bif r3 then ((spec_Wider r2.1 r1.1).bind fun r4 => (kr0 r4)) else (kr0 false))) else (bif (decide (r_0.1 = (4 : Int))) then (kr0 (decide (r1.1.2.2.2.1 ≤ r2.1.2.2.2.1))) else (bif (decide (r_0.1 = (5 : Int))) then ((codes_Bijective r_0.2.2.2.2.1).bind fun r5 => (kr0 r5)) else (kr0 false))))))
theorem invert_undone_s0_bind {R S : Type} (F : R → Option S) (r_0 : Zt18) (a_1 : Zt16) (b_2 : Zt16) (kr0 : Bool → Option R) : (invert_undone_s0 r_0 a_1 b_2 kr0).bind F = invert_undone_s0 r_0 a_1 b_2 (fun a0 => (kr0 a0).bind F) := by
  simp only [invert_undone_s0, cond_bind, within_bind, none_bind, some_bind, sum_bind, bind_bind]
def invert_undone (r_0 : Zt18) (a_1 : Zt16) (b_2 : Zt16) : Option Bool :=
  invert_undone_s0 r_0 a_1 b_2 (fun a0 => some a0)
def invert_Check_s0 {R : Type} (m_0 : Zt22) (a_1 : Zt16) (b_2 : Zt16) (kr0 : Bool → Option R) (go0 : Zt20 → Int → Int → Zt16 → Zt16 → Option R) : Option R :=
  ((xlate_Check m_0 a_1 b_2).bind fun r1 => (bif (!(decide (r1.1 = (0 : Int)))) then (kr0 false) else ((codes_Bijective m_0.1).bind fun r2 => (bif (!r2) then (kr0 false) else (go0 m_0.2.1 ((List.length m_0.2.1) : Int) (0 : Int) a_1 b_2)))))
theorem invert_Check_s0_bind {R S : Type} (F : R → Option S) (m_0 : Zt22) (a_1 : Zt16) (b_2 : Zt16) (kr0 : Bool → Option R) (go0 : Zt20 → Int → Int → Zt16 → Zt16 → Option R) : (invert_Check_s0 m_0 a_1 b_2 kr0 go0).bind F = invert_Check_s0 m_0 a_1 b_2 (fun a0 => (kr0 a0).bind F) (fun a0 a1 a2 a3 a4 => (go0 a0 a1 a2 a3 a4).bind F) := by
  simp only [invert_Check_s0, cond_bind, within_bind, none_bind, some_bind, sum_bind, bind_bind]
def invert_Check_s1 {R : Type} (t29 : Zt20) (t30 : Int) (t31 : Int) (bt4 : Zt16) (bt5 : Zt16) (ex0_0 : Bool → Option R) (nx0 : Zt20 → Int → Int → Zt16 → Zt16 → Option R) (ex0_1 : Option R) : Option R :=
  (bif (decide (t31 < t30)) then (within t31 (List.length t29) ((invert_undone (List.getD t29 (t31).toNat ((0 : Int), (0 : Int), (0 : Int), (bs []), ([] : List Zt8), ())) bt4 bt5).bind fun r3 => (bif (!r3) then (ex0_0 false) else (nx0 t29 t30 (IntKind.i64.wrap (t31 + (1 : Int))) bt4 bt5)))) else (ex0_1))
theorem invert_Check_s1_bind {R S : Type} (F : R → Option S) (t29 : Zt20) (t30 : Int) (t31 : Int) (bt4 : Zt16) (bt5 : Zt16) (ex0_0 : Bool → Option R) (nx0 : Zt20 → Int → Int → Zt16 → Zt16 → Option R) (ex0_1 : Option R) : (invert_Check_s1 t29 t30 t31 bt4 bt5 ex0_0 nx0 ex0_1).bind F = invert_Check_s1 t29 t30 t31 bt4 bt5 (fun a0 => (ex0_0 a0).bind F) (fun a0 a1 a2 a3 a4 => (nx0 a0 a1 a2 a3 a4).bind F) ((ex0_1).bind F) := by
  simp only [invert_Check_s1, cond_bind, within_bind, none_bind, some_bind, sum_bind, bind_bind]
def invert_Check_s2 {R : Type} (t6 : Bool) (kr0 : Bool → Option R) : Option R :=
  (kr0 t6)
theorem invert_Check_s2_bind {R S : Type} (F : R → Option S) (t6 : Bool) (kr0 : Bool → Option R) : (invert_Check_s2 t6 kr0).bind F = invert_Check_s2 t6 (fun a0 => (kr0 a0).bind F) := by
  simp only [invert_Check_s2, cond_bind, within_bind, none_bind, some_bind, sum_bind, bind_bind]
def invert_Check_s3 {R : Type}  (kr0 : Bool → Option R) : Option R :=
  (kr0 true)
theorem invert_Check_s3_bind {R S : Type} (F : R → Option S)  (kr0 : Bool → Option R) : (invert_Check_s3 kr0).bind F = invert_Check_s3 (fun a0 => (kr0 a0).bind F) := by
  simp only [invert_Check_s3, cond_bind, within_bind, none_bind, some_bind, sum_bind, bind_bind]
def invert_Check_l0 : Nat → Zt20 → Int → Int → Zt16 → Zt16 → Option (Sum Bool Unit)
  | 0, _, _, _, _, _ => none
  | k + 1, v0, v1, v2, v3, v4 => invert_Check_s1 v0 v1 v2 v3 v4 (fun a0 => some (.inl a0)) (fun a0 a1 a2 a3 a4 => invert_Check_l0 k a0 a1 a2 a3 a4) (some (.inr ()))
def invert_Check (m_0 : Zt22) (a_1 : Zt16) (b_2 : Zt16) : Option Bool :=
  invert_Check_s0 m_0 a_1 b_2 (fun a0 => some a0) (fun a0 a1 a2 a3 a4 => (invert_Check_l0 FUEL a0 a1 a2 a3 a4).bind fun e => (Sum.elim (fun (we : Bool) => invert_Check_s2 we (fun a0 => some a0)) (fun (we : Unit) => invert_Check_s3 (fun a0 => some a0)) e))
end Groat
set_option linter.unusedVariables false
set_option linter.unusedSimpArgs false
set_option maxRecDepth 100000
namespace Groat
open Go Go.Ref
end Groat
set_option linter.unusedVariables false
set_option linter.unusedSimpArgs false
set_option maxRecDepth 100000
namespace Groat
open Go Go.Ref
end Groat
set_option linter.unusedVariables false
set_option linter.unusedSimpArgs false
set_option maxRecDepth 100000
namespace Groat
open Go Go.Ref
end Groat
set_option linter.unusedVariables false
set_option linter.unusedSimpArgs false
set_option maxRecDepth 100000
namespace Groat
open Go Go.Ref
end Groat
set_option linter.unusedVariables false
set_option linter.unusedSimpArgs false
set_option maxRecDepth 100000
namespace Groat
open Go Go.Ref
def w22_lossless_s0 {R : Type}  (go0 : (List Int) → Int → Int → Zt22 → Zt22 → Option R) : Option R :=
  ((r14_Lossless).bind fun r1 => (go0 r1 ((List.length r1) : Int) (0 : Int) (([] : List Zt8), ([] : List Zt18), ()) (([((bs [48, 50, 48, 48]), (bs [49, 50, 48, 48]), ()), ((bs [48, 50, 49, 48]), (bs [49, 50, 49, 48]), ())] : List Zt8), ([] : List Zt18), ())))
theorem w22_lossless_s0_bind {R S : Type} (F : R → Option S)  (go0 : (List Int) → Int → Int → Zt22 → Zt22 → Option R) : (w22_lossless_s0 go0).bind F = w22_lossless_s0 (fun a0 a1 a2 a3 a4 => (go0 a0 a1 a2 a3 a4).bind F) := by
  simp only [w22_lossless_s0, cond_bind, within_bind, none_bind, some_bind, sum_bind, bind_bind]
def w22_lossless_s1 {R : Type} (t9 : (List Int)) (t10 : Int) (t11 : Int) (bt0 : Zt22) (bt1 : Zt22) (nx0 : (List Int) → Int → Int → Zt22 → Zt22 → Option R) (ex0_0 : Zt22 → Zt22 → Option R) : Option R :=
  (bif (decide (t11 < t10)) then (within t11 (List.length t9) (bif (decide ((List.getD t9 (t11).toNat (0 : Int)) = (12 : Int))) then (bif (decide (((List.length bt1.2.1) + (List.length ([((4 : Int), (List.getD t9 (t11).toNat (0 : Int)), (List.getD t9 (t11).toNat (0 : Int)), (bs []), ([] : List Zt8), ())] : List Zt18))) * 64 ≤ 140737488355328)) then (nx0 t9 t10 (IntKind.i64.wrap (t11 + (1 : Int))) bt0 (bt1.1, (bt1.2.1 ++ ([((4 : Int), (List.getD t9 (t11).toNat (0 : Int)), (List.getD t9 (t11).toNat (0 : Int)), (bs []), ([] : List Zt8), ())] : List Zt18)), ())) else none) else (bif (decide (((List.length bt1.2.1) + (List.length ([((1 : Int), (List.getD t9 (t11).toNat (0 : Int)), (List.getD t9 (t11).toNat (0 : Int)), (bs []), ([] : List Zt8), ())] : List Zt18))) * 64 ≤ 140737488355328)) then (nx0 t9 t10 (IntKind.i64.wrap (t11 + (1 : Int))) bt0 (bt1.1, (bt1.2.1 ++ ([((1 : Int), (List.getD t9 (t11).toNat (0 : Int)), (List.getD t9 (t11).toNat (0 : Int)), (bs []), ([] : List Zt8), ())] : List Zt18)), ())) else none))) else (ex0_0 bt0 bt1))
theorem w22_lossless_s1_bind {R S : Type} (F : R → Option S) (t9 : (List Int)) (t10 : Int) (t11 : Int) (bt0 : Zt22) (bt1 : Zt22) (nx0 : (List Int) → Int → Int → Zt22 → Zt22 → Option R) (ex0_0 : Zt22 → Zt22 → Option R) : (w22_lossless_s1 t9 t10 t11 bt0 bt1 nx0 ex0_0).bind F = w22_lossless_s1 t9 t10 t11 bt0 bt1 (fun a0 a1 a2 a3 a4 => (nx0 a0 a1 a2 a3 a4).bind F) (fun a0 a1 => (ex0_0 a0 a1).bind F) := by
  simp only [w22_lossless_s1, cond_bind, within_bind, none_bind, some_bind, sum_bind, bind_bind]
def w22_lossless_s2 {R : Type} (bt0 : Zt22) (bt1 : Zt22) (kr0 : Zt22 → Option R) : Option R :=
  (kr0 bt1)
theorem w22_lossless_s2_bind {R S : Type} (F : R → Option S) (bt0 : Zt22) (bt1 : Zt22) (kr0 : Zt22 → Option R) : (w22_lossless_s2 bt0 bt1 kr0).bind F = w22_lossless_s2 bt0 bt1 (fun a0 => (kr0 a0).bind F) := by
  simp only [w22_lossless_s2, cond_bind, within_bind, none_bind, some_bind, sum_bind, bind_bind]
def w22_lossless_l0 : Nat → (List Int) → Int → Int → Zt22 → Zt22 → Option (Zt22 × Zt22)
  | 0, _, _, _, _, _ => none
  | k + 1, v0, v1, v2, v3, v4 => w22_lossless_s1 v0 v1 v2 v3 v4 (fun a0 a1 a2 a3 a4 => w22_lossless_l0 k a0 a1 a2 a3 a4) (fun a0 a1 => some (a0, a1))
def w22_lossless  : Option Zt22 :=
  w22_lossless_s0 (fun a0 a1 a2 a3 a4 => (w22_lossless_l0 FUEL a0 a1 a2 a3 a4).bind fun e => w22_lossless_s2 e.1 e.2 (fun a0 => some a0))
def w22_awake_s0 {R : Type}  (kr0 : Bool → Option R) : Option R :=
  ((r14_Schema (0 : Int)).bind fun r1 => ((r14_Schema (1 : Int)).bind fun r2 => ((w22_lossless).bind fun r3 => ((invert_Turn r3).bind fun r4 => (bif (decide (((List.length r3.2.1) + (List.length ([((2 : Int), (13 : Int), (0 : Int), (bs []), ([] : List Zt8), ())] : List Zt18))) * 64 ≤ 140737488355328)) then ((w22_lossless).bind fun r5 => ((invert_Check r5 r1 r2).bind fun r6 => (bif r6 then ((invert_Check (r3.1, (r3.2.1 ++ ([((2 : Int), (13 : Int), (0 : Int), (bs []), ([] : List Zt8), ())] : List Zt18)), ()) r1 r2).bind fun r7 => (bif (!r7) then ((invert_Check r4 r2 r1).bind fun r8 => (bif (!r8) then (bif (decide (((List.length r4.1) : Int) = (2 : Int))) then (within (0 : Int) (List.length r4.1) (bif ((decide ((List.getD r4.1 ((0 : Int)).toNat ((bs []), (bs []), ())).1 = (bs [49, 50, 48, 48]))) && ((decide ((List.getD r4.1 ((0 : Int)).toNat ((bs []), (bs []), ())).2.1 = (bs [48, 50, 48, 48]))) && true)) then (kr0 (decide (((List.length r4.2.1) : Int) = (21 : Int)))) else (kr0 false))) else (kr0 false)) else (kr0 false))) else (kr0 false))) else (kr0 false)))) else none)))))
theorem w22_awake_s0_bind {R S : Type} (F : R → Option S)  (kr0 : Bool → Option R) : (w22_awake_s0 kr0).bind F = w22_awake_s0 (fun a0 => (kr0 a0).bind F) := by
  simp only [w22_awake_s0, cond_bind, within_bind, none_bind, some_bind, sum_bind, bind_bind]
def w22_awake  : Option Bool :=
  w22_awake_s0 (fun a0 => some a0)
def w22_InvertSchemas_s0 {R : Type} (high_0 : Int) (low_1 : Int) (x_2 : Zt15) (kr0 : Bool → Option R) (go0 : Int → Int → Zt20 → Zt20 → Int → Int → Zt15 → Zt16 → Zt16 → Zt22 → Option R) : Option R :=
  ((w22_awake).bind fun r1 => (bif (!r1) then ((w22_awake).bind fun r2 => (kr0 r2)) else ((r16_Great x_2).bind fun r3 => (bif r3 then ((w22_awake).bind fun r4 => (kr0 r4)) else ((dialect_Acquirer).bind fun r5 => ((dialect_Issuer).bind fun r6 => ((w22_lossless).bind fun r7 => (go0 high_0 low_1 ([] : List Zt18) r7.2.1 ((List.length r7.2.1) : Int) (0 : Int) x_2 r5 r6 r7))))))))
theorem w22_InvertSchemas_s0_bind {R S : Type} (F : R → Option S) (high_0 : Int) (low_1 : Int) (x_2 : Zt15) (kr0 : Bool → Option R) (go0 : Int → Int → Zt20 → Zt20 → Int → Int → Zt15 → Zt16 → Zt16 → Zt22 → Option R) : (w22_InvertSchemas_s0 high_0 low_1 x_2 kr0 go0).bind F = w22_InvertSchemas_s0 high_0 low_1 x_2 (fun a0 => (kr0 a0).bind F) (fun a0 a1 a2 a3 a4 a5 a6 a7 a8 a9 => (go0 a0 a1 a2 a3 a4 a5 a6 a7 a8 a9).bind F) := by
  simp only [w22_InvertSchemas_s0, cond_bind, within_bind, none_bind, some_bind, sum_bind, bind_bind]
def w22_InvertSchemas_s1 {R : Type} (high_0 : Int) (low_1 : Int) (t10 : Zt20) (t28 : Zt20) (t29 : Int) (t30 : Int) (bt5 : Zt15) (bt7 : Zt16) (bt8 : Zt16) (bt9 : Zt22) (nx0 : Int → Int → Zt20 → Zt20 → Int → Int → Zt15 → Zt16 → Zt16 → Zt22 → Option R) (ex0_0 : Zt20 → Zt15 → Zt16 → Zt16 → Zt22 → Option R) : Option R :=
  (bif (decide (t30 < t29)) then (within t30 (List.length t28) ((r05_Has high_0 low_1 (List.getD t28 (t30).toNat ((0 : Int), (0 : Int), (0 : Int), (bs []), ([] : List Zt8), ())).2.1).bind fun r8 => (bif r8 then (bif (decide (((List.length t10) + (List.length ([(List.getD t28 (t30).toNat ((0 : Int), (0 : Int), (0 : Int), (bs []), ([] : List Zt8), ()))] : List Zt18))) * 64 ≤ 140737488355328)) then (nx0 high_0 low_1 (t10 ++ ([(List.getD t28 (t30).toNat ((0 : Int), (0 : Int), (0 : Int), (bs []), ([] : List Zt8), ()))] : List Zt18)) t28 t29 (IntKind.i64.wrap (t30 + (1 : Int))) bt5 bt7 bt8 bt9) else none) else (nx0 high_0 low_1 t10 t28 t29 (IntKind.i64.wrap (t30 + (1 : Int))) bt5 bt7 bt8 bt9)))) else (ex0_0 t10 bt5 bt7 bt8 bt9))
theorem w22_InvertSchemas_s1_bind {R S : Type} (F : R → Option S) (high_0 : Int) (low_1 : Int) (t10 : Zt20) (t28 : Zt20) (t29 : Int) (t30 : Int) (bt5 : Zt15) (bt7 : Zt16) (bt8 : Zt16) (bt9 : Zt22) (nx0 : Int → Int → Zt20 → Zt20 → Int → Int → Zt15 → Zt16 → Zt16 → Zt22 → Option R) (ex0_0 : Zt20 → Zt15 → Zt16 → Zt16 → Zt22 → Option R) : (w22_InvertSchemas_s1 high_0 low_1 t10 t28 t29 t30 bt5 bt7 bt8 bt9 nx0 ex0_0).bind F = w22_InvertSchemas_s1 high_0 low_1 t10 t28 t29 t30 bt5 bt7 bt8 bt9 (fun a0 a1 a2 a3 a4 a5 a6 a7 a8 a9 => (nx0 a0 a1 a2 a3 a4 a5 a6 a7 a8 a9).bind F) (fun a0 a1 a2 a3 a4 => (ex0_0 a0 a1 a2 a3 a4).bind F) := by
  simp only [w22_InvertSchemas_s1, cond_bind, within_bind, none_bind, some_bind, sum_bind, bind_bind]
def w22_InvertSchemas_s2 {R : Type} (t10 : Zt20) (bt5 : Zt15) (bt7 : Zt16) (bt8 : Zt16) (bt9 : Zt22) (kr0 : Bool → Option R) : Option R :=
  ((invert_Check (bt9.1, t10, ()) bt7 bt8).bind fun r9 => (bif (!r9) then (kr0 false) else ((xlate_Translate (bt9.1, t10, ()) bt7 bt8 bt5).bind fun r10 => (bif (!((decide (r10.2.1 = (0 : Int))) && ((decide (r10.2.2.1 = (0 : Int))) && true))) then (kr0 true) else ((invert_Turn (bt9.1, t10, ())).bind fun r11 => ((schema_Set bt8).bind fun r12 => ((schema_Restrict bt8 r12).bind fun r13 => ((xlate_Translate r11 r13 bt7 r10.1).bind fun r14 => (bif ((decide (r14.2.1 = (0 : Int))) && ((decide (r14.2.2.1 = (0 : Int))) && true)) then ((r16_Same bt5 r14.1).bind fun r15 => (kr0 r15)) else (kr0 false))))))))))
theorem w22_InvertSchemas_s2_bind {R S : Type} (F : R → Option S) (t10 : Zt20) (bt5 : Zt15) (bt7 : Zt16) (bt8 : Zt16) (bt9 : Zt22) (kr0 : Bool → Option R) : (w22_InvertSchemas_s2 t10 bt5 bt7 bt8 bt9 kr0).bind F = w22_InvertSchemas_s2 t10 bt5 bt7 bt8 bt9 (fun a0 => (kr0 a0).bind F) := by
  simp only [w22_InvertSchemas_s2, cond_bind, within_bind, none_bind, some_bind, sum_bind, bind_bind]
def w22_InvertSchemas_l0 : Nat → Int → Int → Zt20 → Zt20 → Int → Int → Zt15 → Zt16 → Zt16 → Zt22 → Option (Zt20 × Zt15 × Zt16 × Zt16 × Zt22)
  | 0, _, _, _, _, _, _, _, _, _, _ => none
  | k + 1, v0, v1, v2, v3, v4, v5, v6, v7, v8, v9 => w22_InvertSchemas_s1 v0 v1 v2 v3 v4 v5 v6 v7 v8 v9 (fun a0 a1 a2 a3 a4 a5 a6 a7 a8 a9 => w22_InvertSchemas_l0 k a0 a1 a2 a3 a4 a5 a6 a7 a8 a9) (fun a0 a1 a2 a3 a4 => some (a0, a1, a2, a3, a4))
def w22_InvertSchemas (high_0 : Int) (low_1 : Int) (x_2 : Zt15) : Option Bool :=
  w22_InvertSchemas_s0 high_0 low_1 x_2 (fun a0 => some a0) (fun a0 a1 a2 a3 a4 a5 a6 a7 a8 a9 => (w22_InvertSchemas_l0 FUEL a0 a1 a2 a3 a4 a5 a6 a7 a8 a9).bind fun e => w22_InvertSchemas_s2 e.1 e.2.1 e.2.2.1 e.2.2.2.1 e.2.2.2.2 (fun a0 => some a0))
end Groat
set_option linter.unusedVariables false
set_option linter.unusedSimpArgs false
set_option maxRecDepth 100000
namespace Groat
open Go Go.Ref
end Groat
set_option linter.unusedVariables false
set_option linter.unusedSimpArgs false
set_option maxRecDepth 100000
namespace Groat
open Go Go.Ref
end Groat
set_option linter.unusedVariables false
set_option linter.unusedSimpArgs false
set_option maxRecDepth 100000
namespace Groat
open Go Go.Ref
end Groat
set_option linter.unusedVariables false
set_option linter.unusedSimpArgs false
set_option maxRecDepth 100000
namespace Groat
open Go Go.Ref
end Groat
set_option linter.unusedVariables false
set_option linter.unusedSimpArgs false
namespace Groat
open Go Go.Ref
theorem fuel_eq : FUEL = 18446744073709551616 := by unfold FUEL; rfl
theorem maxLen_eq : maxLen = 9223372036854775807 := rfl
theorem i64_id {x : Int} (h1 : -9223372036854775808 ≤ x) (h2 : x ≤ 9223372036854775807) : IntKind.i64.wrap x = x := wrap64 h1 h2
theorem i64_nat {n : Nat} (h : n ≤ 9223372036854775807) : IntKind.i64.wrap (n : Int) = n := wrap64 (by omega) (by omega)
theorem i64_succ {j : Nat} (h : j < 9223372036854775807) : IntKind.i64.wrap ((j : Int) + 1) = ((j + 1 : Nat) : Int) := by
  rw [wrap64 (by omega) (by omega)]; rfl
theorem u64_mod (x : Int) : IntKind.u64.wrap x = x % 18446744073709551616 := by
  simp [IntKind.wrap, IntKind.signed, IntKind.bits]
theorem u8_mod (x : Int) : IntKind.u8.wrap x = x % 256 := by
  simp [IntKind.wrap, IntKind.signed, IntKind.bits]
theorem u64_id {x : Int} (h1 : 0 ≤ x) (h2 : x < 18446744073709551616) : IntKind.u64.wrap x = x := by rw [u64_mod]; omega
theorem u8_id {x : Int} (h1 : 0 ≤ x) (h2 : x < 256) : IntKind.u8.wrap x = x := by rw [u8_mod]; omega
theorem wf_u64 {n : Int} (h : Wf (.int .u64) n) : 0 ≤ n ∧ n < 18446744073709551616 := by
  simp only [Wf, Lit.wf, IntKind.min, IntKind.max, IntKind.signed, IntKind.bits, Bool.and_eq_true, decide_eq_true_eq] at h
  simp at h
  omega
theorem within_nat_lt {R : Type} {j n : Nat} {x : Option R} (h : j < n) : within (j : Int) n x = x := within_at h
theorem within_int {R : Type} {i : Int} {n : Nat} {x : Option R} (h0 : 0 ≤ i) (h : i < n) : within i n x = x := by
  unfold within
  rw [decide_eq_true h0, decide_eq_true h]; rfl
theorem bif_dec {R : Type} {p : Prop} [Decidable p] (x y : R) : (bif decide p then x else y) = if p then x else y := by
  by_cases h : p <;> simp [h]
def bl (s : ByteArray) : List Int := s.data.toList.map fun b => (b.toNat : Int)
theorem bl_inj {a b : ByteArray} (h : bl a = bl b) : a = b := by
  apply ByteArray.ext
  apply Array.ext'
  unfold bl at h
  have : Function.Injective (fun b : UInt8 => (b.toNat : Int)) := fun x y hxy => UInt8.toNat_inj.1 (Int.ofNat.inj hxy)
  exact (List.map_inj_right (fun x y h => this h)).1 h
theorem bl_eq {a b : ByteArray} : a = b ↔ bl a = bl b := ⟨fun h => by rw [h], bl_inj⟩
theorem bl_length (s : ByteArray) : (bl s).length = s.size := by unfold bl; rw [List.length_map]; rfl
theorem bl_append (a b : ByteArray) : bl (a ++ b) = bl a ++ bl b := by simp [bl, ByteArray.data_append]
theorem bl_extract (s : ByteArray) (i j : Nat) : bl (s.extract i j) = ((bl s).take j).drop i := by
  unfold bl
  rw [ByteArray.data_extract, Array.toList_extract, List.extract_eq_drop_take', List.map_drop, List.map_take]
theorem bl_byteAt (s : ByteArray) (i : Nat) : byteAt s i = (bl s).getD i 0 := by
  unfold byteAt bl
  split
  · rename_i h
    have h' : i < s.data.toList.length := h
    rw [List.getD_eq_getElem?_getD, List.getElem?_map, List.getElem?_eq_getElem h']
    rfl
  · rename_i h
    have h' : s.data.toList.length ≤ i := Nat.le_of_not_lt h
    rw [List.getD_eq_getElem?_getD, List.getElem?_eq_none (by simpa using h')]
    rfl
def isByte (n : Int) : Prop := 0 ≤ n ∧ n < 256
theorem bl_byte {s : ByteArray} {x : Int} (h : x ∈ bl s) : isByte x := by
  unfold bl at h
  obtain ⟨b, _, rfl⟩ := List.mem_map.1 h
  have := b.toNat_lt
  unfold isByte
  omega
theorem bl_strOf {xs : List Int} (h : ∀ x ∈ xs, isByte x) : bl (strOf xs) = xs := by
  simp only [bl, strOf, List.map_map]
  conv => rhs; rw [← List.map_id xs]
  apply List.map_congr_left
  intro x hx
  have := h x hx
  unfold isByte at this
  simp only [Function.comp, id]
  rw [UInt8.toNat_ofNat_of_lt' (by show x.toNat < 256; omega)]
  omega
theorem strOf_bl (s : ByteArray) : strOf (bl s) = s := bl_inj (bl_strOf fun x hx => bl_byte hx)
theorem bl_empty : bl (bs []) = [] := rfl
theorem bl_nil_iff {s : ByteArray} : s = bs [] ↔ bl s = [] := by rw [bl_eq, bl_empty]
theorem strOf_size (xs : List Int) : (strOf xs).size = xs.length := by rw [← bl_length]; unfold bl strOf; simp
section
variable {α σ ρ : Type}
end
end Groat
namespace Groat
open Go Go.Ref
section
variable {α σ ρ : Type}
def runI (g : Int → α → σ → (σ → Option ρ) → Option ρ) (fin : σ → Option ρ) : List α → Int → σ → Option ρ
  | [], _, s => fin s
  | x :: r, i, s => g i x s fun s' => runI g fin r (i + 1) s'
theorem loopI' (d : α) (xs : List α) (hlen : xs.length ≤ 9223372036854775807) (g : Int → α → σ → (σ → Option ρ) → Option ρ) (fin : σ → Option ρ) (L : Nat → Int → σ → Option ρ)
    (step : ∀ k (i : Int) s, L (k + 1) i s = bif decide (i < (xs.length : Int)) then within i xs.length (g i (xs.getD i.toNat d) s fun s' => L k (IntKind.i64.wrap (i + 1)) s') else fin s) :
    ∀ (m j k : Nat) (s : σ), j + m = xs.length → m < k → L k j s = runI g fin (xs.drop j) j s
  | 0, j, k, s, hj, hk => by
    obtain ⟨k, rfl⟩ : ∃ k', k = k' + 1 := ⟨k - 1, by omega⟩
    rw [step, decide_eq_false (by omega), List.drop_eq_nil_of_le (by omega)]; rfl
  | m + 1, j, k, s, hj, hk => by
    obtain ⟨k, rfl⟩ : ∃ k', k = k' + 1 := ⟨k - 1, by omega⟩
    have hlt : j < xs.length := by omega
    rw [step, decide_eq_true (by omega), cond_true, within_nat_lt hlt, List.drop_eq_getElem_cons hlt, runI]
    have hx : xs.getD ((j : Int)).toNat d = xs[j] := by rw [Int.toNat_natCast, List.getD_eq_getElem?_getD, List.getElem?_eq_getElem hlt]; rfl
    rw [hx]
    congr 1
    funext s'
    rw [i64_succ (by omega), loopI' d xs hlen g fin L step m (j + 1) k s' (by omega) (by omega)]
    rfl
theorem loopI (d : α) (xs : List α) (hlen : xs.length ≤ maxLen) (g : Int → α → σ → (σ → Option ρ) → Option ρ) (fin : σ → Option ρ) (L : Nat → Int → σ → Option ρ)
    (step : ∀ k (i : Int) s, L (k + 1) i s = bif decide (i < (xs.length : Int)) then within i xs.length (g i (xs.getD i.toNat d) s fun s' => L k (IntKind.i64.wrap (i + 1)) s') else fin s) (s : σ) : L FUEL 0 s = runI g fin xs 0 s := by
  rw [maxLen_eq] at hlen
  have := loopI' d xs hlen g fin L step xs.length 0 FUEL s (by omega) (by rw [fuel_eq]; omega)
  rw [List.drop_zero] at this
  exact this
end
end Groat
set_option linter.unusedVariables false
set_option linter.unusedSimpArgs false
namespace Groat
open Go Go.Ref
def isDig (b : Int) : Bool := decide (48 ≤ b ∧ b ≤ 57)
def allD (l : List Int) : Bool := l.all isDig
theorem allD_cons (b : Int) (l : List Int) : allD (b :: l) = (isDig b && allD l) := rfl
theorem isDig_t {b : Int} (h : 48 ≤ b ∧ b ≤ 57) : isDig b = true := decide_eq_true h
theorem isDig_f {b : Int} (h : ¬ (48 ≤ b ∧ b ≤ 57)) : isDig b = false := decide_eq_false h
theorem bl_get {s : ByteArray} {j : Nat} (h : j < s.size) : (bl s).getD j 0 = ((s[j]'h).toNat : Int) := by
  rw [← bl_byteAt]
  unfold byteAt
  rw [dif_pos h]
theorem drop_bl {s : ByteArray} {j : Nat} (h : j < s.size) : (bl s).drop j = ((s[j]'h).toNat : Int) :: (bl s).drop (j + 1) := by
  have h' : j < (bl s).length := by rw [bl_length]; exact h
  rw [List.drop_eq_getElem_cons h']
  congr 1
  have := bl_get h
  rw [List.getD_eq_getElem?_getD, List.getElem?_eq_getElem h'] at this
  exact this
theorem decode_high (s : ByteArray) (pos : Nat) (h : pos < s.size) (ha : 128 ≤ (s[pos]'h).toNat) : 128 ≤ (Utf8.decode s pos).1 := by
  have e : s.get! (pos + 0) = s[pos]'h := by
    show s.get! pos = _
    simp [ByteArray.get!, getElem!_pos, h]
    rfl
  unfold Utf8.decode
  simp only [e]
  rw [if_neg (by omega)]
  have hre : 128 ≤ Utf8.runeError := by unfold Utf8.runeError; omega
  split
  · split
    · assumption
    · exact hre
  · split
    · split
      · rename_i hc
        simp only [Bool.and_eq_true, decide_eq_true_eq] at hc
        have := hc.1
        simp only
        omega
      · exact hre
    · split
      · split
        · rename_i hc
          simp only [Bool.and_eq_true, decide_eq_true_eq] at hc
          have := hc.1
          simp only
          omega
        · exact hre
      · exact hre
theorem all_loop (s : ByteArray) : ∀ (n j k : Nat), s.size - j ≤ n → j ≤ s.size → n < k → digits_All_l0 k (s, j) = some (bif allD ((bl s).drop j) then .inr () else .inl false)
  | n, j, 0, _, _, hk => by omega
  | n, j, k + 1, hn, hj, hk => by
    unfold digits_All_l0 digits_All_s1
    dsimp only
    by_cases hlt : j < s.size
    · rw [decide_eq_true hlt, cond_true, drop_bl hlt, allD_cons]
      by_cases h1 : (s[j]'hlt).toNat < 128
      · rw [decode_ascii s j hlt h1]
        dsimp only
        by_cases h2 : ((s[j]'hlt).toNat : Int) < 48
        · rw [decide_eq_true h2, cond_true, isDig_f (by omega)]; rfl
        · rw [decide_eq_false h2, cond_false]
          by_cases h3 : (57 : Int) < ((s[j]'hlt).toNat : Int)
          · rw [decide_eq_true h3, cond_true, isDig_f (by omega)]; rfl
          · obtain ⟨n, rfl⟩ : ∃ n', n = n' + 1 := ⟨n - 1, by omega⟩
            rw [decide_eq_false h3, cond_false, isDig_t (by omega), Bool.true_and, all_loop s n (j + 1) k (by omega) (by omega) (by omega)]
      · have hd := decode_high s j hlt (by omega)
        rw [decide_eq_false (by omega : ¬ ((Utf8.decode s j).1 : Int) < 48), cond_false, decide_eq_true (by omega : (57 : Int) < ((Utf8.decode s j).1 : Int)), cond_true, isDig_f (by omega)]; rfl
    · rw [decide_eq_false hlt, cond_false, List.drop_eq_nil_of_le (by rw [bl_length]; omega)]; rfl
theorem All_eq (s : ByteArray) (h : s.size ≤ maxLen) : digits_All s = some (allD (bl s)) := by
  unfold digits_All digits_All_s0
  dsimp only
  rw [maxLen_eq] at h
  rw [all_loop s s.size 0 FUEL (by omega) (by omega) (by rw [fuel_eq]; omega), List.drop_zero]
  cases allD (bl s) <;> rfl
end Groat
set_option linter.unusedVariables false
set_option linter.unusedSimpArgs false
set_option maxRecDepth 100000
namespace Groat
open Go Go.Ref
theorem ofInt_nat' (n a : Nat) (h : a < 2 ^ n) : (BitVec.ofInt n (a : Int)).toNat = a := by
  rw [BitVec.toNat_ofInt]
  have h2 : ((a : Int) % ((2 ^ n : Nat) : Int)) = ((a % 2 ^ n : Nat) : Int) := by rfl
  rw [h2, Int.toNat_natCast, Nat.mod_eq_of_lt h]
theorem u64_nat {a : Nat} (h : a < 18446744073709551616) : IntKind.u64.wrap (a : Int) = a := u64_id (by omega) (by omega)
theorem and64 {a b : Nat} (ha : a < 18446744073709551616) (hb : b < 18446744073709551616) : ibits .and .u64 a b = ((a &&& b : Nat) : Int) := by
  simp only [ibits, BitVec.toNat_and, ofInt_nat' IntKind.u64.bits a ha, ofInt_nat' IntKind.u64.bits b hb]
  exact u64_nat (Nat.lt_of_le_of_lt Nat.and_le_left ha)
theorem or64 {a b : Nat} (ha : a < 18446744073709551616) (hb : b < 18446744073709551616) : ibits .or .u64 a b = ((a ||| b : Nat) : Int) := by
  simp only [ibits, BitVec.toNat_or, ofInt_nat' IntKind.u64.bits a ha, ofInt_nat' IntKind.u64.bits b hb]
  exact u64_nat (Nat.or_lt_two_pow (n := 64) ha hb)
theorem and_i64 {a b : Nat} (ha : a < 9223372036854775808) (hb : b < 9223372036854775808) : ibits .and .i64 a b = ((a &&& b : Nat) : Int) := by
  simp only [ibits, BitVec.toNat_and, ofInt_nat' IntKind.i64.bits a (Nat.lt_trans ha (by decide)), ofInt_nat' IntKind.i64.bits b (Nat.lt_trans hb (by decide))]
  have := Nat.lt_of_le_of_lt (Nat.and_le_left (n := a) (m := b)) ha
  exact i64_nat (by omega)
theorem fdiv_nat (a : Nat) (k : Nat) (hk : k ≤ 64) : Int.fdiv (a : Int) (2 ^ min ((k : Int)).toNat 64) = ((a / 2 ^ k : Nat) : Int) := by
  rw [Int.fdiv_eq_ediv_of_nonneg _ (Int.pow_nonneg (by decide)), Int.toNat_natCast, Nat.min_eq_left hk]
  rfl
section
variable {c0 c1 c2 c3 c4 c5 c6 c7 : Nat}
end
end Groat
set_option linter.unusedVariables false
set_option linter.unusedSimpArgs false
namespace Groat
open Go Go.Ref
abbrev FSet := Int × Int × Unit
abbrev B64 : Nat := 18446744073709551616
def hasN (h l : Nat) (n : Int) : Bool :=
  if 1 ≤ n ∧ n ≤ 64 then h.testBit (64 - n).toNat else if 65 ≤ n ∧ n ≤ 128 then l.testBit (128 - n).toNat else false
def bitH (n : Int) : Nat := if 1 ≤ n ∧ n ≤ 64 then 2 ^ (64 - n).toNat else 0
def bitL (n : Int) : Nat := if 65 ≤ n ∧ n ≤ 128 then 2 ^ (128 - n).toNat else 0
theorem pow_lt64 {k : Nat} (h : k < 64) : 2 ^ k < B64 := Nat.pow_lt_pow_right (by decide) h
theorem bitH_lt (n : Int) : bitH n < B64 := by
  unfold bitH; split
  · exact pow_lt64 (by omega)
  · decide
theorem bitL_lt (n : Int) : bitL n < B64 := by
  unfold bitL; split
  · exact pow_lt64 (by omega)
  · decide
theorem shl_one {k : Nat} (h : k < 64) : IntKind.u64.wrap ((1 : Int) * 2 ^ min k 64) = ((2 ^ k : Nat) : Int) := by
  rw [Nat.min_eq_left (by omega), Int.one_mul]
  have := pow_lt64 h
  have e : ((2 : Int) ^ k) = ((2 ^ k : Nat) : Int) := by simp
  rw [e]
  exact u64_nat this
theorem bit_eq (n : Int) : fields_bit n = some ((bitH n : Int), (bitL n : Int), ()) := by
  unfold fields_bit fields_bit_s0 bitH bitL
  by_cases h1 : n < 1
  · rw [decide_eq_true h1, if_neg (by omega), if_neg (by omega)]; rfl
  rw [decide_eq_false h1, cond_false]
  by_cases h2 : 128 < n
  · rw [decide_eq_true h2, if_neg (by omega), if_neg (by omega)]; rfl
  rw [decide_eq_false h2, cond_false]
  by_cases h3 : n ≤ 64
  · rw [decide_eq_true h3, cond_true, i64_id (by omega) (by omega), decide_eq_false (by omega), cond_false, shl_one (by omega), if_pos (by omega), if_neg (by omega)]; rfl
  · rw [decide_eq_false h3, cond_false, i64_id (by omega) (by omega), decide_eq_false (by omega), cond_false, shl_one (by omega), if_neg (by omega), if_pos (by omega)]; rfl
theorem Either_eq (h l h' l' : Nat) (hh : h < B64) (hl : l < B64) (hh' : h' < B64) (hl' : l' < B64) : fields_Set_Either ((h : Int), (l : Int), ()) ((h' : Int), (l' : Int), ()) = some (((h ||| h' : Nat) : Int), ((l ||| l' : Nat) : Int), ()) := by
  unfold fields_Set_Either fields_Set_Either_s0
  rw [or64 hh hh', or64 hl hl']
theorem Both_eq (h l h' l' : Nat) (hh : h < B64) (hl : l < B64) (hh' : h' < B64) (hl' : l' < B64) : fields_Set_Both ((h : Int), (l : Int), ()) ((h' : Int), (l' : Int), ()) = some (((h &&& h' : Nat) : Int), ((l &&& l' : Nat) : Int), ()) := by
  unfold fields_Set_Both fields_Set_Both_s0
  rw [and64 hh hh', and64 hl hl']
theorem With_eq (h l : Nat) (hh : h < B64) (hl : l < B64) (n : Int) : fields_Set_With ((h : Int), (l : Int), ()) n = some (((h ||| bitH n : Nat) : Int), ((l ||| bitL n : Nat) : Int), ()) := by
  unfold fields_Set_With fields_Set_With_s0
  rw [bit_eq, some_bind, Either_eq h l _ _ hh hl (bitH_lt n) (bitL_lt n)]; rfl
theorem or_lt {a b : Nat} (ha : a < B64) (hb : b < B64) : a ||| b < B64 := Nat.or_lt_two_pow (n := 64) ha hb
theorem and_lt {a b : Nat} (ha : a < B64) : a &&& b < B64 := Nat.lt_of_le_of_lt Nat.and_le_left ha
theorem has_or (h l h' l' : Nat) (n : Int) : hasN (h ||| h') (l ||| l') n = (hasN h l n || hasN h' l' n) := by
  unfold hasN; split
  · rw [Nat.testBit_or]
  · split
    · rw [Nat.testBit_or]
    · rfl
theorem has_and (h l h' l' : Nat) (n : Int) : hasN (h &&& h') (l &&& l') n = (hasN h l n && hasN h' l' n) := by
  unfold hasN; split
  · rw [Nat.testBit_and]
  · split
    · rw [Nat.testBit_and]
    · rfl
def inR (n : Int) : Bool := decide (1 ≤ n ∧ n ≤ 128)
theorem has_bit (m n : Int) : hasN (bitH m) (bitL m) n = (decide (m = n) && inR n) := by
  unfold hasN bitH bitL inR
  by_cases h1 : 1 ≤ n ∧ n ≤ 64
  · rw [if_pos h1]
    by_cases h2 : 1 ≤ m ∧ m ≤ 64
    · rw [if_pos h2, Nat.testBit_two_pow, decide_eq_true (p := 1 ≤ n ∧ n ≤ 128) (by omega), Bool.and_true]
      exact decide_eq_decide.2 (by omega)
    · rw [if_neg h2, decide_eq_false (by omega : ¬ m = n)]; simp
  · rw [if_neg h1]
    by_cases h3 : 65 ≤ n ∧ n ≤ 128
    · rw [if_pos h3]
      by_cases h2 : 65 ≤ m ∧ m ≤ 128
      · rw [if_pos h2, Nat.testBit_two_pow, decide_eq_true (p := 1 ≤ n ∧ n ≤ 128) (by omega), Bool.and_true]
        exact decide_eq_decide.2 (by omega)
      · rw [if_neg h2, decide_eq_false (by omega : ¬ m = n)]; simp
    · rw [if_neg h3, decide_eq_false (p := 1 ≤ n ∧ n ≤ 128) (by omega), Bool.and_false]
theorem has_with (h l : Nat) (m n : Int) : hasN (h ||| bitH m) (l ||| bitL m) n = (hasN h l n || (decide (m = n) && inR n)) := by rw [has_or, has_bit]
theorem set_ext {h l h' l' : Nat} (hh : h < B64) (hl : l < B64) (hh' : h' < B64) (hl' : l' < B64) (e : ∀ n : Int, 1 ≤ n → n ≤ 128 → hasN h l n = hasN h' l' n) : h = h' ∧ l = l' := by
  constructor
  · apply Nat.eq_of_testBit_eq
    intro i
    by_cases hi : i < 64
    · have := e (64 - i) (by omega) (by omega)
      unfold hasN at this
      rw [if_pos (by omega), if_pos (by omega)] at this
      have e2 : (64 - (64 - (i : Int))).toNat = i := by omega
      rwa [e2] at this
    · rw [Nat.testBit_lt_two_pow (Nat.lt_of_lt_of_le hh (Nat.pow_le_pow_right (n := 2) (by decide) (by omega : 64 ≤ i))), Nat.testBit_lt_two_pow (Nat.lt_of_lt_of_le hh' (Nat.pow_le_pow_right (n := 2) (by decide) (by omega : 64 ≤ i)))]
  · apply Nat.eq_of_testBit_eq
    intro i
    by_cases hi : i < 64
    · have := e (128 - i) (by omega) (by omega)
      unfold hasN at this
      have h1 : ¬ (1 ≤ 128 - (i : Int) ∧ 128 - (i : Int) ≤ 64) := by omega
      have h2 : 65 ≤ 128 - (i : Int) ∧ 128 - (i : Int) ≤ 128 := by omega
      rw [if_neg h1, if_pos h2, if_neg h1, if_pos h2] at this
      have e2 : (128 - (128 - (i : Int))).toNat = i := by omega
      rwa [e2] at this
    · rw [Nat.testBit_lt_two_pow (Nat.lt_of_lt_of_le hl (Nat.pow_le_pow_right (n := 2) (by decide) (by omega : 64 ≤ i))), Nat.testBit_lt_two_pow (Nat.lt_of_lt_of_le hl' (Nat.pow_le_pow_right (n := 2) (by decide) (by omega : 64 ≤ i)))]
def setH (l : List Int) : Nat := l.foldl (fun a n => a ||| bitH n) 0
def setL (l : List Int) : Nat := l.foldl (fun a n => a ||| bitL n) 0
theorem fold_or_lt (f : Int → Nat) (hf : ∀ n, f n < B64) (l : List Int) : ∀ a, a < B64 → l.foldl (fun a n => a ||| f n) a < B64 := by
  induction l with
  | nil => intro a h; exact h
  | cons x r ih => intro a h; exact ih _ (or_lt h (hf x))
theorem setH_lt (l : List Int) : setH l < B64 := fold_or_lt _ bitH_lt l 0 (by decide)
theorem setL_lt (l : List Int) : setL l < B64 := fold_or_lt _ bitL_lt l 0 (by decide)
theorem fold_has (l : List Int) : ∀ (a b : Nat) (n : Int), hasN (l.foldl (fun a n => a ||| bitH n) a) (l.foldl (fun a n => a ||| bitL n) b) n = (hasN a b n || (decide (n ∈ l) && inR n)) := by
  induction l with
  | nil => intro a b n; simp
  | cons x r ih =>
    intro a b n
    rw [List.foldl_cons, List.foldl_cons, ih, has_with]
    by_cases h1 : x = n
    · subst h1; cases inR x <;> simp
    · have : n ≠ x := fun e => h1 e.symm
      simp [h1, this]
theorem set_has (l : List Int) (n : Int) : hasN (setH l) (setL l) n = (decide (n ∈ l) && inR n) := by
  unfold setH setL
  rw [fold_has]
  have : hasN 0 0 n = false := by unfold hasN; simp
  rw [this]; simp
theorem of_loop (xs : List Int) (hx : xs.length ≤ 9223372036854775807) (b0 : FSet) : ∀ (n j k : Nat) (a b : Nat), j + n = xs.length → n < k → a < B64 → b < B64 →
    fields_Of_l0 k xs (xs.length : Int) j b0 ((a : Int), (b : Int), ()) = some (b0, ((((xs.drop j).foldl (fun a n => a ||| bitH n) a : Nat) : Int), (((xs.drop j).foldl (fun a n => a ||| bitL n) b : Nat) : Int), ())) := by
  intro n
  induction n with
  | zero =>
    intro j k a b hj hk ha hb
    obtain ⟨k, rfl⟩ : ∃ k', k = k' + 1 := ⟨k - 1, by omega⟩
    rw [fields_Of_l0, fields_Of_s1, decide_eq_false (by omega), List.drop_eq_nil_of_le (by omega)]; rfl
  | succ n ih =>
    intro j k a b hj hk ha hb
    obtain ⟨k, rfl⟩ : ∃ k', k = k' + 1 := ⟨k - 1, by omega⟩
    have hlt : j < xs.length := by omega
    have hx' : xs.getD ((j : Int)).toNat 0 = xs[j] := by rw [Int.toNat_natCast, List.getD_eq_getElem?_getD, List.getElem?_eq_getElem hlt]; rfl
    rw [fields_Of_l0, fields_Of_s1, decide_eq_true (by omega), cond_true, within_nat_lt hlt, hx', With_eq a b ha hb, some_bind, i64_succ (by omega), ih (j + 1) k _ _ (by omega) (by omega) (or_lt ha (bitH_lt _)) (or_lt hb (bitL_lt _)), List.drop_eq_getElem_cons hlt]
    rfl
theorem Of_eq (xs : List Int) (hx : xs.length ≤ maxLen) : fields_Of xs = some ((setH xs : Int), (setL xs : Int), ()) := by
  rw [maxLen_eq] at hx
  unfold fields_Of fields_Of_s0
  have := of_loop xs hx (0, 0, ()) xs.length 0 FUEL 0 0 (by omega) (by rw [fuel_eq]; omega) (by decide) (by decide)
  simp only [fields_Of_s2]
  have e : fields_Of_l0 FUEL xs (xs.length : Int) 0 (0, 0, ()) (0, 0, ()) = _ := this
  rw [e]; rfl
end Groat
set_option linter.unusedVariables false
set_option linter.unusedSimpArgs false
namespace Groat
open Go Go.Ref
theorem ofInt_nat (n a : Nat) (h : a < 2 ^ n) : (BitVec.ofInt n (a : Int)).toNat = a := by
  rw [BitVec.toNat_ofInt]
  have h2 : ((a : Int) % ((2 ^ n : Nat) : Int)) = ((a % 2 ^ n : Nat) : Int) := by rfl
  rw [h2, Int.toNat_natCast, Nat.mod_eq_of_lt h]
theorem ibits_or_nat {k : IntKind} {a b : Nat} (ha : a < 2 ^ k.bits) (hb : b < 2 ^ k.bits) : ibits .or k a b = k.wrap ((a ||| b : Nat) : Int) := by
  simp only [ibits, BitVec.toNat_or, ofInt_nat _ _ ha, ofInt_nat _ _ hb]
theorem or_bytes {x y : Int} (hx : isByte x) (hy : isByte y) : ibits .or .i64 (IntKind.i64.wrap (IntKind.i64.wrap x * 2 ^ min (8 : Int).toNat 64)) (IntKind.i64.wrap y) = x * 256 + y := by
  unfold isByte at hx hy
  obtain ⟨x, rfl⟩ := Int.eq_ofNat_of_zero_le hx.1
  obtain ⟨y, rfl⟩ := Int.eq_ofNat_of_zero_le hy.1
  rw [i64_nat (by omega), i64_nat (by omega)]
  have h1 : ((x : Int) * (2 : Int) ^ min (8 : Int).toNat 64) = ((x <<< 8 : Nat) : Int) := by
    rw [Nat.shiftLeft_eq]; rfl
  have h3 : x <<< 8 = x * 256 := by rw [Nat.shiftLeft_eq]
  rw [h1, i64_nat (by omega), ibits_or_nat (by simp only [IntKind.bits]; omega) (by simp only [IntKind.bits]; omega), ← Nat.shiftLeft_add_eq_or_of_lt (by omega : y < 2 ^ 8), h3, i64_nat (by omega)]
  omega
theorem getD_byte {b : List Int} (hb : ∀ x ∈ b, isByte x) (i : Nat) : isByte (b.getD i 0) := by
  rw [List.getD_eq_getElem?_getD]
  cases h : b[i]? with
  | none => exact ⟨by simp, by simp⟩
  | some x => exact hb x (List.mem_of_getElem? h)
end Groat
set_option linter.unusedVariables false
set_option linter.unusedSimpArgs false
namespace Groat
open Go Go.Ref
section
variable {α : Type} [DecidableEq α]
theorem same_loop' (d : α) (eq : α → α → Bool) (heq : ∀ x y, eq x y = true ↔ x = y) (a b : List α) (hl : a.length = b.length) (h : a.length ≤ 9223372036854775807) (L : Nat → Int → Option (Sum Bool Unit))
    (step : ∀ k (i : Int), L (k + 1) i = bif decide (i < (a.length : Int)) then within i a.length (within i b.length (bif !(eq (a.getD i.toNat d) (b.getD i.toNat d)) then some (.inl false) else L k (IntKind.i64.wrap (i + 1)))) else some (.inr ())) :
    ∀ (m j k : Nat), j + m = a.length → m < k → L k j = some (if a.drop j = b.drop j then .inr () else .inl false)
  | 0, j, k, hj, hk => by
    obtain ⟨k, rfl⟩ : ∃ k', k = k' + 1 := ⟨k - 1, by omega⟩
    rw [step, decide_eq_false (by omega), List.drop_eq_nil_of_le (by omega), List.drop_eq_nil_of_le (by omega)]
    simp
  | m + 1, j, k, hj, hk => by
    obtain ⟨k, rfl⟩ : ∃ k', k = k' + 1 := ⟨k - 1, by omega⟩
    have ha : j < a.length := by omega
    have hb : j < b.length := by omega
    rw [step, decide_eq_true (by omega), cond_true, within_nat_lt ha, within_nat_lt hb, i64_succ (by omega), same_loop' d eq heq a b hl h L step m (j + 1) k (by omega) (by omega), List.drop_eq_getElem_cons ha, List.drop_eq_getElem_cons hb, Int.toNat_natCast]
    have h1 : a.getD j d = a[j] := by rw [List.getD_eq_getElem?_getD, List.getElem?_eq_getElem ha]; rfl
    have h2 : b.getD j d = b[j] := by rw [List.getD_eq_getElem?_getD, List.getElem?_eq_getElem hb]; rfl
    rw [h1, h2]
    by_cases e : a[j] = b[j]
    · rw [(heq _ _).2 e, e]
      simp only [List.cons.injEq, true_and, Bool.not_true, cond_false]
    · have : eq a[j] b[j] = false := by
        cases hh : eq a[j] b[j] with
        | false => rfl
        | true => exact absurd ((heq _ _).1 hh) e
      rw [this]
      simp only [List.cons.injEq, e, false_and, if_false, Bool.not_false, cond_true]
theorem same_loop (d : α) (eq : α → α → Bool) (heq : ∀ x y, eq x y = true ↔ x = y) (a b : List α) (hl : a.length = b.length) (h : a.length ≤ maxLen) (L : Nat → Int → Option (Sum Bool Unit))
    (step : ∀ k (i : Int), L (k + 1) i = bif decide (i < (a.length : Int)) then within i a.length (within i b.length (bif !(eq (a.getD i.toNat d) (b.getD i.toNat d)) then some (.inl false) else L k (IntKind.i64.wrap (i + 1)))) else some (.inr ())) :
    L FUEL 0 = some (if a = b then .inr () else .inl false) := by
  have := same_loop' d eq heq a b hl (by rw [maxLen_eq] at h; exact h) L step a.length 0 FUEL (by omega) (by rw [fuel_eq]; rw [maxLen_eq] at h; omega)
  simpa using this
end
end Groat
set_option linter.unusedVariables false
set_option linter.unusedSimpArgs false
namespace Groat
open Go Go.Ref
theorem has05_loop : ∀ (m : Nat) (x j n k : Nat), x < B64 → j + m = n → n ≤ 200 → m < k → r05_Has_l0 k (x : Int) n j = some ((x / 2 ^ m : Nat) : Int) := by
  intro m
  induction m with
  | zero =>
    intro x j n k hx hj hn hk
    obtain ⟨k, rfl⟩ : ∃ k', k = k' + 1 := ⟨k - 1, by omega⟩
    rw [r05_Has_l0, r05_Has_s1, decide_eq_false (by omega)]; simp
  | succ m ih =>
    intro x j n k hx hj hn hk
    obtain ⟨k, rfl⟩ : ∃ k', k = k' + 1 := ⟨k - 1, by omega⟩
    have hx : x < 18446744073709551616 := hx
    rw [r05_Has_l0, r05_Has_s1, decide_eq_true (by omega), cond_true, i64_succ (by omega), Int.tdiv_eq_ediv_of_nonneg (by omega)]
    have e : IntKind.u64.wrap ((x : Int) / 2) = ((x / 2 : Nat) : Int) := by
      rw [u64_id (by omega) (by omega)]; omega
    rw [e, ih (x / 2) (j + 1) n k (by show x / 2 < 18446744073709551616; omega) (by omega) hn (by omega), Nat.div_div_eq_div_mul, ← Nat.pow_succ']
theorem Has05_eq (h l : Nat) (hh : h < B64) (hl : l < B64) (n : Int) : r05_Has (h : Int) (l : Int) n = some (hasN h l n) := by
  unfold r05_Has r05_Has_s0 hasN
  have fin : ∀ (x : Nat) (i : Nat), decide (Int.tmod ((x / 2 ^ i : Nat) : Int) 2 = 1) = x.testBit i := by
    intro x i
    rw [Nat.testBit_eq_decide_div_mod_eq, Int.tmod_eq_emod_of_nonneg (Int.natCast_nonneg _)]
    generalize x / 2 ^ i = q
    exact decide_eq_decide.2 (by omega)
  by_cases h1 : n < 1
  · rw [decide_eq_true h1, if_neg (by omega), if_neg (by omega)]; rfl
  rw [decide_eq_false h1, cond_false]
  by_cases h2 : 128 < n
  · rw [decide_eq_true h2, if_neg (by omega), if_neg (by omega)]; rfl
  rw [decide_eq_false h2, cond_false]
  by_cases h3 : 64 < n
  · rw [decide_eq_true h3, cond_true, if_neg (by omega), if_pos (by omega), i64_id (by omega) (by omega)]
    have := has05_loop (128 - n).toNat l 0 (128 - n).toNat FUEL hl (by omega) (by omega) (by rw [fuel_eq]; omega)
    have e : (((128 - n).toNat : Nat) : Int) = 128 - n := by omega
    rw [e] at this
    have e2 : r05_Has_l0 FUEL (l : Int) (128 - n) 0 = _ := this
    dsimp only
    rw [e2, some_bind]
    simp only [r05_Has_s2, fin]
  · rw [decide_eq_false h3, cond_false, if_pos (by omega), i64_id (by omega) (by omega)]
    have := has05_loop (64 - n).toNat h 0 (64 - n).toNat FUEL hh (by omega) (by omega) (by rw [fuel_eq]; omega)
    have e : (((64 - n).toNat : Nat) : Int) = 64 - n := by omega
    rw [e] at this
    have e2 : r05_Has_l0 FUEL (h : Int) (64 - n) 0 = _ := this
    dsimp only
    rw [e2, some_bind]
    simp only [r05_Has_s2, fin]
end Groat
set_option linter.unusedVariables false
set_option linter.unusedSimpArgs false
namespace Groat
open Go Go.Ref
abbrev Spec := Int × Int × Int × Int × Int × Unit
abbrev Schema := Int × Int × List Spec × Unit
abbrev spec0 : Spec := (0, 0, 0, 0, 0, ())
theorem sets_eq (c : Int) : class_sets c = some (if c = 1 then 1 else if c = 2 then 2 else if c = 3 then 3 else if c = 4 then 7 else if c = 5 then 15 else if c = 6 then 15 else 0) := by
  unfold class_sets class_sets_s0
  simp only [bif_dec]
  repeat' split
  all_goals rfl
theorem Known_eq (c : Int) : class_Known c = some (decide (1 ≤ c ∧ c ≤ 6)) := by
  unfold class_Known class_Known_s0
  rw [sets_eq, some_bind]
  congr 1
  by_cases h1 : c = 1
  · subst h1; rfl
  by_cases h2 : c = 2
  · subst h2; rfl
  by_cases h3 : c = 3
  · subst h3; rfl
  by_cases h4 : c = 4
  · subst h4; rfl
  by_cases h5 : c = 5
  · subst h5; rfl
  by_cases h6 : c = 6
  · subst h6; rfl
  rw [if_neg h1, if_neg h2, if_neg h3, if_neg h4, if_neg h5, if_neg h6, decide_eq_false (p := 1 ≤ c ∧ c ≤ 6) (by omega)]
  rfl
theorem Most2 : prefix_Most 2 = some 99 := by kernel_rfl
theorem Most3 : prefix_Most 3 = some 999 := by kernel_rfl
def specC (s : Spec) : Int :=
  if s.1 < 2 ∨ 128 < s.1 then 1 else if s.2.1 < 1 ∨ 6 < s.2.1 then 6 else if s.2.2.1 < 1 ∨ 3 < s.2.2.1 then 3
  else if s.2.2.2.1 < 1 ∨ s.2.2.2.2.1 < s.2.2.2.1 ∨ (s.2.2.1 = 2 ∧ 99 < s.2.2.2.2.1) ∨ 999 < s.2.2.2.2.1 ∨ (s.2.2.1 = 1 ∧ ¬ s.2.2.2.1 = s.2.2.2.2.1) then 5
  else if s.2.2.1 = 1 ∧ s.2.1 = 6 then 13 else 0
theorem specCheck_eq (s : Spec) : spec_Check s = some (specC s) := by
  obtain ⟨no, c, f, mn, mx, u⟩ := s
  unfold spec_Check spec_Check_s0 specC
  simp only [Known_eq, some_bind]
  by_cases h1 : no < 2 ∨ 128 < no
  · rw [if_pos h1]
    rcases h1 with h | h
    · rw [decide_eq_true h]; rfl
    · rw [decide_eq_true h]; cases decide (no < 2) <;> rfl
  rw [if_neg h1, decide_eq_false (by omega), decide_eq_false (by omega)]
  by_cases h2 : c < 1 ∨ 6 < c
  · rw [if_pos h2, decide_eq_false (p := 1 ≤ c ∧ c ≤ 6) (by omega)]; rfl
  rw [if_neg h2, decide_eq_true (p := 1 ≤ c ∧ c ≤ 6) (by omega)]
  simp only [cond_false, Bool.not_true]
  by_cases h3 : f < 1 ∨ 3 < f
  · rw [if_pos h3]
    rcases h3 with h | h
    · rw [decide_eq_true h]; rfl
    · rw [decide_eq_true h]; cases decide (f < 1) <;> rfl
  rw [if_neg h3, decide_eq_false (by omega), decide_eq_false (by omega)]
  simp only [cond_false]
  by_cases h4 : mn < 1 ∨ mx < mn ∨ 999 < mx
  · rw [if_pos (by omega)]
    by_cases a : mn < 1
    · rw [decide_eq_true a]; rfl
    rw [decide_eq_false a]
    by_cases b : mx < mn
    · rw [decide_eq_true b]; rfl
    rw [decide_eq_false b, decide_eq_true (by omega)]; rfl
  rw [decide_eq_false (by omega), decide_eq_false (by omega), decide_eq_false (by omega)]
  simp only [cond_false]
  by_cases f1 : f = 1
  · rw [decide_eq_true f1]
    simp only [cond_true, Bool.not_true, cond_false]
    by_cases e : mn = mx
    · rw [decide_eq_true e, if_neg (by omega)]
      by_cases e6 : c = 6
      · rw [decide_eq_true e6, if_pos (by omega)]; rfl
      · rw [decide_eq_false e6, if_neg (by omega)]; rfl
    · rw [decide_eq_false e, if_pos (by omega)]; rfl
  · rw [decide_eq_false f1]
    simp only [cond_false, Bool.not_false, cond_true]
    by_cases f2 : f = 2
    · subst f2
      rw [Most2, some_bind]
      by_cases h : 99 < mx
      · rw [decide_eq_true h, if_pos (by omega)]; rfl
      · rw [decide_eq_false h, if_neg (by omega), if_neg (by omega)]; rfl
    · have f3 : f = 3 := by omega
      subst f3
      rw [Most3, some_bind, decide_eq_false (by omega), if_neg (by omega), if_neg (by omega)]; rfl
theorem specCheck11_eq (s : Spec) : r11_Check s = some (specC s) := by
  obtain ⟨no, c, f, mn, mx, u⟩ := s
  unfold r11_Check r11_Check_s0 specC
  simp only
  by_cases h1 : no < 2 ∨ 128 < no
  · rw [if_pos h1]
    rcases h1 with h | h
    · rw [decide_eq_true h]; rfl
    · rw [decide_eq_true h]; cases decide (no < 2) <;> rfl
  rw [if_neg h1, decide_eq_false (by omega), decide_eq_false (by omega)]
  by_cases h2 : c < 1 ∨ 6 < c
  · rw [if_pos h2]
    rcases h2 with h | h
    · rw [decide_eq_true h]; rfl
    · rw [decide_eq_true h]; cases decide (c < 1) <;> rfl
  rw [if_neg h2, decide_eq_false (by omega), decide_eq_false (by omega)]
  by_cases h3 : f < 1 ∨ 3 < f
  · rw [if_pos h3]
    rcases h3 with h | h
    · rw [decide_eq_true h]; rfl
    · rw [decide_eq_true h]; cases decide (f < 1) <;> rfl
  rw [if_neg h3, decide_eq_false (by omega), decide_eq_false (by omega)]
  simp only [cond_false]
  by_cases f1 : f = 1
  · rw [decide_eq_true f1, decide_eq_false (by omega : ¬ f = 2)]
    simp only [cond_true, cond_false]
    by_cases a : mn < 1
    · rw [decide_eq_true a, if_pos (by omega)]; rfl
    rw [decide_eq_false a]
    by_cases b : mx < mn
    · rw [decide_eq_true b, if_pos (by omega)]; rfl
    rw [decide_eq_false b]
    by_cases d : 999 < mx
    · rw [decide_eq_true d, if_pos (by omega)]; rfl
    rw [decide_eq_false d]
    by_cases e : mn = mx
    · rw [decide_eq_true e, if_neg (by omega)]
      by_cases e6 : c = 6
      · rw [decide_eq_true e6, if_pos (by omega)]; rfl
      · rw [decide_eq_false e6, if_neg (by omega)]; rfl
    · rw [decide_eq_false e, if_pos (by omega)]; rfl
  · rw [decide_eq_false f1]
    simp only [cond_false]
    by_cases f2 : f = 2
    · rw [decide_eq_true f2]
      simp only [cond_true]
      by_cases a : mn < 1
      · rw [decide_eq_true a, if_pos (by omega)]; rfl
      rw [decide_eq_false a]
      by_cases b : mx < mn
      · rw [decide_eq_true b, if_pos (by omega)]; rfl
      rw [decide_eq_false b]
      by_cases d : 99 < mx
      · rw [decide_eq_true d, if_pos (by omega)]; rfl
      rw [decide_eq_false d, if_neg (by omega), if_neg (by omega)]; rfl
    · rw [decide_eq_false f2]
      simp only [cond_false]
      by_cases a : mn < 1
      · rw [decide_eq_true a, if_pos (by omega)]; rfl
      rw [decide_eq_false a]
      by_cases b : mx < mn
      · rw [decide_eq_true b, if_pos (by omega)]; rfl
      rw [decide_eq_false b]
      by_cases d : 999 < mx
      · rw [decide_eq_true d, if_pos (by omega)]; rfl
      rw [decide_eq_false d, if_neg (by omega), if_neg (by omega)]; rfl
def specsC : List Spec → Int → Int → Int × Int
  | [], _, _ => (0, 0)
  | x :: r, i, last => if specC x ≠ 0 then (specC x, i) else if x.1 ≤ last then (11, i) else specsC r (i + 1) x.1
def schemaC (s : Schema) : Int × Int :=
  if ¬ (s.1 = 1 ∨ s.1 = 2) then (1, -1) else if s.2.1 < 0 ∨ 9 < s.2.1 then (7, -1) else specsC s.2.2.1 0 0
theorem specC_no {x : Spec} (h : specC x = 0) : 2 ≤ x.1 ∧ x.1 ≤ 128 := by
  unfold specC at h
  split at h
  · cases h
  · omega
def excC (e : Sum (Int × Int) Unit) : Option (Int × Int) := Sum.elim (fun we => some (we.1, we.2)) (fun _ => some (0, 0)) e
theorem exc_specs (l : List Spec) : ∀ (i : Int) (last : Int), excC (if (specsC l i last).1 = 0 then .inr () else .inl (specsC l i last)) = some (specsC l i last) := by
  intro i last
  by_cases h : (specsC l i last).1 = 0
  · rw [if_pos h]
    have : specsC l i last = (0, 0) := by
      induction l generalizing i last with
      | nil => rfl
      | cons x r ih =>
        unfold specsC at h ⊢
        split
        · rename_i h1; rw [if_pos h1] at h; exact absurd h h1
        · rename_i h1
          rw [if_neg h1] at h
          split
          · rename_i h2; rw [if_pos h2] at h; cases h
          · rename_i h2; rw [if_neg h2] at h; exact ih _ _ h
    rw [this]; rfl
  · rw [if_neg h]; rfl
theorem getD_spec {l : List Spec} {j : Nat} (h : j < l.length) : l.getD ((j : Int)).toNat ((0 : Int), (0 : Int), (0 : Int), (0 : Int), (0 : Int), ()) = l[j] := by
  rw [Int.toNat_natCast, List.getD_eq_getElem?_getD, List.getElem?_eq_getElem h]; rfl
theorem check_loop (s : Schema) (hl : s.2.2.1.length ≤ 9223372036854775807) : ∀ (m j k : Nat) (last : Int), j + m = s.2.2.1.length → m < k → (j = 0 → last = 0) → (∀ h : 0 < j, last = (s.2.2.1.getD (j - 1) spec0).1) →
    schema_Check_l0 k s.2.2.1 (s.2.2.1.length : Int) j s = some (if (specsC (s.2.2.1.drop j) j last).1 = 0 then .inr () else .inl (specsC (s.2.2.1.drop j) j last)) := by
  intro m
  induction m with
  | zero =>
    intro j k last hj hk h0 h1
    obtain ⟨k, rfl⟩ : ∃ k', k = k' + 1 := ⟨k - 1, by omega⟩
    rw [schema_Check_l0, schema_Check_s1, decide_eq_false (by omega), List.drop_eq_nil_of_le (by omega)]; rfl
  | succ m ih =>
    intro j k last hj hk h0 h1
    obtain ⟨k, rfl⟩ : ∃ k', k = k' + 1 := ⟨k - 1, by omega⟩
    have hlt : j < s.2.2.1.length := by omega
    have ihj := ih (j + 1) k (s.2.2.1[j]).1 (by omega) (by omega) (by omega) (fun _ => by
      rw [Nat.add_sub_cancel, List.getD_eq_getElem?_getD, List.getElem?_eq_getElem hlt]; rfl)
    rw [schema_Check_l0, schema_Check_s1, decide_eq_true (by omega), cond_true, within_nat_lt hlt, getD_spec hlt, specCheck_eq, some_bind, i64_succ (by omega), List.drop_eq_getElem_cons hlt]
    rw [show ((j + 1 : Nat) : Int) = (j : Int) + 1 from rfl] at ihj ⊢
    by_cases hc : specC s.2.2.1[j] = 0
    · rw [decide_eq_true hc]
      simp only [Bool.not_true, cond_false]
      have hno := specC_no hc
      by_cases hz : j = 0
      · have hlast := h0 hz
        have e : specsC (s.2.2.1[j] :: s.2.2.1.drop (j + 1)) j last = specsC (s.2.2.1.drop (j + 1)) ((j : Int) + 1) (s.2.2.1[j]).1 := by
          rw [specsC, if_neg (fun h => h hc), if_neg (by omega)]
        rw [decide_eq_false (by omega), cond_false, e]
        exact ihj
      · have hlast := h1 (by omega)
        have hi : IntKind.i64.wrap ((j : Int) - 1) = ((j - 1 : Nat) : Int) := by rw [i64_id (by omega) (by omega)]; omega
        rw [decide_eq_true (by omega), cond_true, hi, within_nat_lt (by omega), Int.toNat_natCast]
        by_cases hn : (s.2.2.1[j]).1 ≤ last
        · have e : specsC (s.2.2.1[j] :: s.2.2.1.drop (j + 1)) j last = (11, (j : Int)) := by
            rw [specsC, if_neg (fun h => h hc), if_pos hn]
          rw [e, decide_eq_true (by rw [← hlast]; exact hn)]; rfl
        · have e : specsC (s.2.2.1[j] :: s.2.2.1.drop (j + 1)) j last = specsC (s.2.2.1.drop (j + 1)) ((j : Int) + 1) (s.2.2.1[j]).1 := by
            rw [specsC, if_neg (fun h => h hc), if_neg hn]
          rw [e, decide_eq_false (by rw [← hlast]; exact hn)]
          exact ihj
    · have e : specsC (s.2.2.1[j] :: s.2.2.1.drop (j + 1)) j last = (specC s.2.2.1[j], (j : Int)) := by
        rw [specsC, if_pos hc]
      rw [decide_eq_false hc, e, if_neg hc]; rfl
theorem Check_eq (s : Schema) (hl : s.2.2.1.length ≤ maxLen) : schema_Check s = some (schemaC s) := by
  rw [maxLen_eq] at hl
  unfold schema_Check schema_Check_s0 schemaC
  have hx := exc_specs s.2.2.1 0 0
  have hl0 := check_loop s hl s.2.2.1.length 0 FUEL 0 (by omega) (by rw [fuel_eq]; omega) (fun _ => rfl) (fun h => absurd h (by omega))
  rw [List.drop_zero, show ((0 : Nat) : Int) = 0 from rfl] at hl0
  have hloop : (schema_Check_l0 FUEL s.2.2.1 (s.2.2.1.length : Int) 0 s).bind (fun e => Sum.elim (fun (we : Int × Int) => schema_Check_s2 we.1 we.2 fun a0 a1 => some (a0, a1)) (fun (we : Unit) => schema_Check_s3 fun a0 a1 => some (a0, a1)) e) = some (specsC s.2.2.1 0 0) := by
    rw [hl0, some_bind]; exact hx
  dsimp only
  rw [hloop]
  by_cases h1 : s.1 = 1
  · rw [decide_eq_true h1, if_neg (by omega)]
    by_cases h2 : s.2.1 < 0
    · rw [decide_eq_true h2, if_pos (.inl h2)]; rfl
    · rw [decide_eq_false h2]
      by_cases h3 : 9 < s.2.1
      · rw [decide_eq_true h3, if_pos (.inr h3)]; rfl
      · rw [decide_eq_false h3, if_neg (by omega)]; rfl
  · rw [decide_eq_false h1]
    by_cases h0 : s.1 = 2
    · rw [decide_eq_true h0, if_neg (by omega)]
      by_cases h2 : s.2.1 < 0
      · rw [decide_eq_true h2, if_pos (.inl h2)]; rfl
      · rw [decide_eq_false h2]
        by_cases h3 : 9 < s.2.1
        · rw [decide_eq_true h3, if_pos (.inr h3)]; rfl
        · rw [decide_eq_false h3, if_neg (by omega)]; rfl
    · rw [decide_eq_false h0, if_pos (by omega)]; rfl
def findS (l : List Spec) (no : Int) : Option Spec := l.find? fun x => decide (x.1 = no)
theorem Find_eq (s : Schema) (no : Int) (hl : s.2.2.1.length ≤ maxLen) : schema_Find s no = some (match findS s.2.2.1 no with | some x => (x, true) | none => (spec0, false)) := by
  unfold schema_Find schema_Find_s0 findS
  dsimp only
  have h := loopI spec0 s.2.2.1 hl (fun i x (_ : Unit) K => bif decide (x.1 = no) then some (Sum.inl (true, x)) else K ()) (fun _ => some (.inr spec0)) (fun k i _ => schema_Find_l0 k no s.2.2.1 (s.2.2.1.length : Int) i spec0) (fun k i _ => rfl) ()
  rw [h, ]
  clear h hl
  generalize (0 : Int) = i
  generalize s.2.2.1 = l
  induction l generalizing i with
  | nil => rfl
  | cons x r ih =>
    rw [runI, List.find?_cons]
    cases hx : decide (x.1 = no) with
    | true => rfl
    | false => exact ih (i + 1)
theorem hasN_zero (n : Int) : hasN 0 0 n = false := by unfold hasN; simp
theorem schema_ext {a b : Schema} : a = b ↔ a.1 = b.1 ∧ a.2.1 = b.2.1 ∧ a.2.2.1 = b.2.2.1 := by
  obtain ⟨x, y, z, u⟩ := a
  obtain ⟨x', y', z', u'⟩ := b
  simp
instance : DecidableEq Schema := fun a b => decidable_of_iff _ schema_ext.symm
def OkSpecs (l : List Spec) (last : Int) : Prop := (∀ x ∈ l, specC x = 0) ∧ (l.Pairwise fun x y => x.1 < y.1) ∧ ∀ x ∈ l, last < x.1
theorem specsC_ok (l : List Spec) : ∀ (i last : Int), (specsC l i last).1 = 0 ↔ OkSpecs l last := by
  induction l with
  | nil => intro i last; simp [specsC, OkSpecs]
  | cons x r ih =>
    intro i last
    unfold specsC
    by_cases hc : specC x = 0
    · rw [if_neg (fun h => h hc)]
      by_cases hn : x.1 ≤ last
      · rw [if_pos hn]
        constructor
        · intro h; cases h
        · intro ⟨_, _, h3⟩; have := h3 x (by simp); omega
      · rw [if_neg hn, ih]
        constructor
        · intro ⟨h1, h2, h3⟩
          refine ⟨fun y hy => ?_, List.pairwise_cons.2 ⟨h3, h2⟩, fun y hy => ?_⟩
          · rcases List.mem_cons.1 hy with rfl | hy
            · exact hc
            · exact h1 y hy
          · rcases List.mem_cons.1 hy with rfl | hy
            · omega
            · have := h3 y hy; omega
        · intro ⟨h1, h2, h3⟩
          obtain ⟨h4, h5⟩ := List.pairwise_cons.1 h2
          exact ⟨fun y hy => h1 y (by simp [hy]), h5, h4⟩
    · rw [if_pos hc]
      constructor
      · intro h; exact absurd h hc
      · intro ⟨h1, _, _⟩; exact absurd (h1 x (by simp)) hc
def Okay (s : Schema) : Prop := (s.1 = 1 ∨ s.1 = 2) ∧ 0 ≤ s.2.1 ∧ s.2.1 ≤ 9 ∧ OkSpecs s.2.2.1 0
theorem schemaC_ok (s : Schema) : (schemaC s).1 = 0 ↔ Okay s := by
  unfold schemaC Okay
  by_cases h1 : s.1 = 1 ∨ s.1 = 2
  · rw [if_neg (fun h => h h1)]
    by_cases h2 : s.2.1 < 0 ∨ 9 < s.2.1
    · rw [if_pos h2]
      constructor
      · intro h; cases h
      · intro ⟨_, a, b, _⟩; omega
    · rw [if_neg h2, specsC_ok]
      constructor
      · intro h; exact ⟨h1, by omega, by omega, h⟩
      · intro ⟨_, _, _, h⟩; exact h
  · rw [if_pos h1]
    constructor
    · intro h; cases h
    · intro ⟨a, _⟩; exact absurd a h1
theorem OkSpecs.filter {l : List Spec} {last : Int} (h : OkSpecs l last) (p : Spec → Bool) : OkSpecs (l.filter p) last :=
  ⟨fun x hx => h.1 x (List.mem_filter.1 hx).1, h.2.1.filter p, fun x hx => h.2.2 x (List.mem_filter.1 hx).1⟩
end Groat
set_option linter.unusedVariables false
set_option linter.unusedSimpArgs false
namespace Groat
open Go Go.Ref
abbrev Pair := ByteArray × ByteArray × Unit
def pair0 : Pair := (bs [], bs [], ())
instance memDec (a : ByteArray) (l : List ByteArray) : Decidable (a ∈ l) := decidable_of_iff (l.any (fun x => decide (a = x)) = true) (by
  rw [List.any_eq_true]
  exact ⟨fun ⟨x, hx, h⟩ => of_decide_eq_true h ▸ hx, fun h => ⟨a, h, decide_eq_true rfl⟩⟩)
def exI (r : Int) : Sum Int Unit := if r = -1 then .inr () else .inl r
theorem exI_nat (j : Nat) : exI (j : Int) = .inl (j : Int) := if_neg (by omega)
def seenM {K : Type} (l : List K) : List (K × Bool) := l.map fun k => (k, true)
theorem mget_seen {K : Type} [DecidableEq K] (eq : K → K → Bool) (heq : ∀ x y, eq x y = decide (x = y)) (k : K) : ∀ l : List K, mget eq false (seenM l) k = true ↔ k ∈ l
  | [] => by simp [seenM, mget]
  | x :: l => by
    simp only [seenM, List.map_cons, mget, heq]
    by_cases h : k = x
    · rw [decide_eq_true h, cond_true]; exact ⟨fun _ => by rw [h]; exact List.mem_cons_self, fun _ => rfl⟩
    · rw [decide_eq_false h, cond_false]
      have := mget_seen eq heq k l
      simp only [seenM] at this
      rw [this]
      exact ⟨fun h' => List.mem_cons_of_mem _ h', fun h' => (List.mem_cons.1 h').resolve_left h⟩
theorem mhas_seen {K : Type} [DecidableEq K] (eq : K → K → Bool) (heq : ∀ x y, eq x y = decide (x = y)) (k : K) : ∀ l : List K, mhas eq (seenM l) k = true ↔ k ∈ l
  | [] => by simp [seenM, mhas]
  | x :: l => by
    simp only [seenM, List.map_cons, mhas, heq]
    by_cases h : k = x
    · rw [decide_eq_true h, cond_true]; exact ⟨fun _ => by rw [h]; exact List.mem_cons_self, fun _ => rfl⟩
    · rw [decide_eq_false h, cond_false]
      have := mhas_seen eq heq k l
      simp only [seenM] at this
      rw [this]
      exact ⟨fun h' => List.mem_cons_of_mem _ h', fun h' => (List.mem_cons.1 h').resolve_left h⟩
theorem not_true' {b : Bool} {p : Prop} (h : b = true ↔ p) (hp : ¬ p) : b = false := by cases b with
  | false => rfl
  | true => exact absurd (h.1 rfl) hp
theorem seenM_append {K : Type} (l : List K) (k : K) : seenM l ++ [(k, true)] = seenM (l ++ [k]) := by simp [seenM]
def dupP : List ByteArray → List Pair → Int → Option Int
  | _, [], _ => none
  | seen, p :: r, i => if p.1 ∈ seen then some i else dupP (seen ++ [p.1]) r (i + 1)
def tableC (l : List Pair) : Int × Int := if 256 < l.length then (5, 256) else match dupP [] l 0 with
  | some i => (10, i)
  | none => (0, 0)
def dupR (o : Option Int) : Option (Sum (Int × Int) Unit) := some (match o with
  | some i => .inl (10, i)
  | none => .inr ())
theorem codesCheck_run (l : List Pair) : ∀ (i : Int) (seen : List ByteArray),
    runI (fun i (x : Pair) (s : List Zt3) K => bif mget (eqK .str) false s x.1 then some (Sum.inl ((10 : Int), i)) else bif mhas (eqK .str) s x.1 then none else K (s ++ [(x.1, true)])) (fun _ => some (Sum.inr ())) l i (seenM seen) = dupR (dupP seen l i) := by
  induction l with
  | nil => intro i seen; rfl
  | cons p r ih =>
    intro i seen
    simp only [runI, dupP]
    have e1 := mget_seen (eqK .str) (fun _ _ => rfl) p.1 seen
    have e2 := mhas_seen (eqK .str) (fun _ _ => rfl) p.1 seen
    by_cases h : p.1 ∈ seen
    · rw [e1.2 h, if_pos h]; rfl
    · rw [not_true' e1 h, not_true' e2 h, if_neg h, cond_false, cond_false, seenM_append]
      exact ih (i + 1) (seen ++ [p.1])
theorem codesCheck_eq (l : List Pair) (h : l.length ≤ maxLen) : codes_Check l = some (tableC l) := by
  unfold codes_Check codes_Check_s0 tableC
  dsimp only
  by_cases hl : 256 < l.length
  · rw [decide_eq_true (by omega), cond_true, if_pos hl]
  · rw [decide_eq_false (by omega), cond_false, if_neg hl]
    have := loopI pair0 l h (fun i (x : Pair) (s : List Zt3) K => bif mget (eqK .str) false s x.1 then some (Sum.inl ((10 : Int), i)) else bif mhas (eqK .str) s x.1 then none else K (s ++ [(x.1, true)])) (fun _ => some (Sum.inr ()))
      (fun k i s => codes_Check_l0 k l (l.length : Int) i s) (fun k i s => rfl) []
    rw [this]
    have h2 := codesCheck_run l 0 []
    rw [show seenM ([] : List ByteArray) = [] from rfl] at h2
    rw [h2]
    unfold dupR
    cases dupP [] l 0 <;> rfl
def applyP (l : List Pair) (f : ByteArray) : ByteArray × Bool := match l.find? fun p => decide (p.1 = f) with
  | some p => (p.2.1, true)
  | none => (bs [], false)
theorem codesApply_run (f : ByteArray) (l : List Pair) : ∀ (i : Int), runI (fun i (x : Pair) (s : Unit) K => bif decide (x.1 = f) then some (Sum.inl (x.2.1, true)) else K s) (fun _ => some (Sum.inr ())) l i () = some (match l.find? fun p => decide (p.1 = f) with
    | some p => .inl (p.2.1, true)
    | none => .inr ()) := by
  induction l with
  | nil => intro i; rfl
  | cons p r ih =>
    intro i
    simp only [runI, List.find?_cons]
    by_cases h : p.1 = f
    · rw [decide_eq_true h]; rfl
    · rw [decide_eq_false h, cond_false]; exact ih (i + 1)
theorem codesApply_eq (l : List Pair) (f : ByteArray) (h : l.length ≤ maxLen) : codes_Apply l f = some (applyP l f) := by
  unfold codes_Apply codes_Apply_s0 applyP
  dsimp only
  have := loopI pair0 l h (fun i (x : Pair) (s : Unit) K => bif decide (x.1 = f) then some (Sum.inl (x.2.1, true)) else K s) (fun _ => some (Sum.inr ()))
    (fun k i s => codes_Apply_l0 k f l (l.length : Int) i) (fun k i s => rfl) ()
  rw [this, codesApply_run]
  cases l.find? fun p => decide (p.1 = f) <;> rfl
def turnP (l : List Pair) : List Pair := l.map fun p => (p.2.1, p.1, ())
theorem turnP_len (l : List Pair) : (turnP l).length = l.length := by simp [turnP]
theorem turn_run (l : List Pair) (fin : List Pair → Option (List Pair)) (hf : ∀ s, fin s = some s) : ∀ (i : Int) (o : List Pair), o.length + l.length ≤ 1099511627776 →
    runI (fun i (x : Pair) (s : List Pair) K => bif decide ((s.length + (List.length ([(x.2.1, x.1, ())] : List Pair))) * 32 ≤ 140737488355328) then K (s ++ [(x.2.1, x.1, ())]) else none) fin l i o = some (o ++ turnP l) := by
  induction l with
  | nil => intro i o _; simp only [runI, hf]; simp [turnP]
  | cons p r ih =>
    intro i o h
    simp only [List.length_cons] at h
    simp only [runI]
    rw [decide_eq_true (by simp; omega), cond_true, ih (i + 1) _ (by simp; omega)]
    simp [turnP]
theorem codesTurn_eq (l : List Pair) (h : l.length ≤ 1000000) : codes_Turn l = some (turnP l) := by
  unfold codes_Turn codes_Turn_s0
  dsimp only
  have := loopI pair0 l (by rw [maxLen_eq]; omega) (fun i (x : Pair) (s : List Pair) K => bif decide ((s.length + (List.length ([(x.2.1, x.1, ())] : List Pair))) * 32 ≤ 140737488355328) then K (s ++ [(x.2.1, x.1, ())]) else none) (fun s => some s)
    (fun k i s => codes_Turn_l0 k s l (l.length : Int) i) (fun k i s => rfl) []
  rw [decide_eq_true (by omega), cond_true, decide_eq_true (by omega), cond_true]
  rw [this, turn_run l _ (fun _ => rfl) 0 [] (by simp; omega), List.nil_append, Option.bind_some]
  rfl
def bij (l : List Pair) : Bool := decide ((tableC l).1 = 0 ∧ (tableC (turnP l)).1 = 0)
theorem codesBij_eq (l : List Pair) (h : l.length ≤ 1000000) : codes_Bijective l = some (bij l) := by
  unfold codes_Bijective codes_Bijective_s0
  dsimp only
  rw [codesCheck_eq l (by rw [maxLen_eq]; omega), Option.bind_some, codesTurn_eq l h, Option.bind_some, codesCheck_eq _ (by rw [turnP_len, maxLen_eq]; omega), Option.bind_some]
  unfold bij
  by_cases h1 : (tableC l).1 = 0
  · rw [decide_eq_true h1, cond_true]; congr 1; exact decide_eq_decide.2 ⟨fun h2 => ⟨h1, h2⟩, fun h2 => h2.2⟩
  · rw [decide_eq_false h1, cond_false]; congr 1; symm; exact decide_eq_false fun h2 => h1 h2.1
end Groat
set_option linter.unusedVariables false
set_option linter.unusedSimpArgs false
namespace Groat
open Go Go.Ref
def isC (c b : Int) : Bool :=
  if c = 1 then decide (48 ≤ b ∧ b ≤ 57)
  else if c = 2 then decide (65 ≤ b ∧ b ≤ 90 ∨ 97 ≤ b ∧ b ≤ 122)
  else if c = 3 then decide (48 ≤ b ∧ b ≤ 57 ∨ 65 ≤ b ∧ b ≤ 90 ∨ 97 ≤ b ∧ b ≤ 122)
  else if c = 4 then decide (32 ≤ b ∧ b ≤ 126)
  else decide (c = 5 ∨ c = 6)
def setsV (c : Int) : Int := if c = 1 then 1 else if c = 2 then 2 else if c = 3 then 3 else if c = 4 then 7 else if c = 5 then 15 else if c = 6 then 15 else 0
theorem is_fin : ∀ c : Fin 7, ∀ b : Fin 256, r04_Is (c.1 : Int) (b.1 : Int) = some (isC (c.1 : Int) (b.1 : Int)) := by decide +kernel
theorem of_fin : ∀ c : Fin 7, ∀ b : Fin 256, (class_of (b.1 : Int)).map (fun r => decide (ibits .and .i64 (setsV (c.1 : Int)) r = 0)) = some (!isC (c.1 : Int) (b.1 : Int)) := by decide +kernel
theorem cls_cases (c : Int) : (∃ k : Fin 7, c = (k.1 : Int)) ∨ (c ≠ 1 ∧ c ≠ 2 ∧ c ≠ 3 ∧ c ≠ 4 ∧ c ≠ 5 ∧ c ≠ 6) := by
  by_cases h : 0 ≤ c ∧ c ≤ 6
  · exact .inl ⟨⟨c.toNat, by omega⟩, by simp; omega⟩
  · exact .inr ⟨by omega, by omega, by omega, by omega, by omega, by omega⟩
theorem byte_fin {b : Int} (h : isByte b) : ∃ k : Fin 256, b = (k.1 : Int) := by
  unfold isByte at h
  exact ⟨⟨b.toNat, by omega⟩, by simp; omega⟩
theorem Is04_eq (c : Int) {b : Int} (hb : isByte b) : r04_Is c b = some (isC c b) := by
  obtain ⟨b, rfl⟩ := byte_fin hb
  rcases cls_cases c with ⟨k, rfl⟩ | ⟨h1, h2, h3, h4, h5, h6⟩
  · exact is_fin k b
  · unfold r04_Is r04_Is_s0 isC
    simp only [h1, h2, h3, h4, h5, h6, decide_false, cond_false, if_false, or_self, Bool.cond_self]
theorem ofSets_eq (c : Int) {b : Int} (hb : isByte b) : ∃ r, class_of b = some r ∧ decide (ibits .and .i64 (setsV c) r = 0) = !isC c b := by
  obtain ⟨b, rfl⟩ := byte_fin hb
  rcases cls_cases c with ⟨k, rfl⟩ | ⟨h1, h2, h3, h4, h5, h6⟩
  · have := of_fin k b
    cases hc : class_of (b.1 : Int) with
    | none => rw [hc] at this; cases this
    | some r => rw [hc] at this; exact ⟨r, rfl, by simpa using this⟩
  · have := of_fin 0 b
    cases hc : class_of (b.1 : Int) with
    | none => rw [hc] at this; cases this
    | some r =>
      rw [hc] at this
      refine ⟨r, rfl, ?_⟩
      have e1 : setsV c = setsV ((0 : Fin 7).1 : Int) := by unfold setsV; simp [h1, h2, h3, h4, h5, h6]
      have e2 : isC c (b.1 : Int) = isC ((0 : Fin 7).1 : Int) (b.1 : Int) := by unfold isC; simp [h1, h2, h3, h4, h5, h6]
      rw [e1, e2]
      simpa using this
def firstC (c : Int) : List Int → Int → Int
  | [], _ => -1
  | b :: r, i => if isC c b = true then firstC c r (i + 1) else i
theorem firstC_none (c : Int) : ∀ (l : List Int) (i : Int), 0 ≤ i → (0 ≤ firstC c l i ↔ ¬ l.all (isC c) = true)
  | [], i, _ => by simp [firstC]
  | b :: r, i, hi => by
    simp only [firstC, List.all_cons]
    cases h : isC c b with
    | true => rw [if_pos rfl, firstC_none c r (i + 1) (by omega), Bool.true_and]
    | false => simp [hi]
theorem first_loop (c : Int) (s : ByteArray) (hs : s.size ≤ 9223372036854775807) : ∀ (n j k : Nat), j + n = s.size → n < k → class_First_l0 k s (setsV c) (j : Int) = some (exI (firstC c ((bl s).drop j) j))
  | n, j, 0, _, hk => by omega
  | 0, j, k + 1, hj, hk => by
    unfold class_First_l0 class_First_s1
    rw [decide_eq_false (by omega), List.drop_eq_nil_of_le (by rw [bl_length]; omega)]; rfl
  | n + 1, j, k + 1, hj, hk => by
    have hlt : j < s.size := by omega
    have hl : j < (bl s).length := by rw [bl_length]; exact hlt
    have hb : isByte ((bl s)[j]) := bl_byte (List.getElem_mem hl)
    have hg : (bl s).getD j 0 = (bl s)[j] := by rw [List.getD_eq_getElem?_getD, List.getElem?_eq_getElem hl]; rfl
    unfold class_First_l0 class_First_s1
    rw [decide_eq_true (by omega), cond_true, within_nat_lt hlt, Int.toNat_natCast, bl_byteAt, hg, List.drop_eq_getElem_cons hl]
    obtain ⟨r, h1, h2⟩ := ofSets_eq c hb
    rw [h1, Option.bind_some, h2]
    simp only [firstC]
    cases h : isC c (bl s)[j] with
    | true => rw [if_pos rfl, Bool.not_true, cond_false, i64_succ (by omega), first_loop c s hs n (j + 1) k (by omega) (by omega)]; rfl
    | false => rw [if_neg (by simp), Bool.not_false, cond_true, exI_nat]
theorem First_eq (c : Int) (s : ByteArray) (h : s.size ≤ maxLen) : class_First c s = some (firstC c (bl s) 0) := by
  rw [maxLen_eq] at h
  unfold class_First class_First_s0
  dsimp only
  rw [sets_eq, Option.bind_some]
  have := first_loop c s h s.size 0 FUEL (by omega) (by rw [fuel_eq]; omega)
  rw [show ((0 : Nat) : Int) = (0 : Int) from rfl, List.drop_zero] at this
  rw [show (if c = 1 then 1 else if c = 2 then 2 else if c = 3 then 3 else if c = 4 then 7 else if c = 5 then 15 else if c = 6 then 15 else 0 : Int) = setsV c from rfl, this, Option.bind_some]
  unfold exI
  by_cases h : firstC c (bl s) 0 = -1
  · rw [if_pos h, h]; rfl
  · rw [if_neg h]; rfl
theorem first04_loop (c : Int) (s : ByteArray) (hs : s.size ≤ 9223372036854775807) : ∀ (n j k : Nat), j + n = s.size → n < k → r04_First_l0 k c s (j : Int) = some (exI (firstC c ((bl s).drop j) j))
  | n, j, 0, _, hk => by omega
  | 0, j, k + 1, hj, hk => by
    unfold r04_First_l0 r04_First_s1
    rw [decide_eq_false (by omega), List.drop_eq_nil_of_le (by rw [bl_length]; omega)]; rfl
  | n + 1, j, k + 1, hj, hk => by
    have hlt : j < s.size := by omega
    have hl : j < (bl s).length := by rw [bl_length]; exact hlt
    have hb : isByte ((bl s)[j]) := bl_byte (List.getElem_mem hl)
    have hg : (bl s).getD j 0 = (bl s)[j] := by rw [List.getD_eq_getElem?_getD, List.getElem?_eq_getElem hl]; rfl
    unfold r04_First_l0 r04_First_s1
    rw [decide_eq_true (by omega), cond_true, within_nat_lt hlt, Int.toNat_natCast, bl_byteAt, hg, List.drop_eq_getElem_cons hl, Is04_eq c hb, Option.bind_some]
    simp only [firstC]
    cases h : isC c (bl s)[j] with
    | true => rw [if_pos rfl, Bool.not_true, cond_false, i64_succ (by omega), first04_loop c s hs n (j + 1) k (by omega) (by omega)]; rfl
    | false => rw [if_neg (by simp), Bool.not_false, cond_true, exI_nat]
theorem First04_eq (c : Int) (s : ByteArray) (h : s.size ≤ maxLen) : r04_First c s = some (firstC c (bl s) 0) := by
  rw [maxLen_eq] at h
  unfold r04_First r04_First_s0
  dsimp only
  have := first04_loop c s h s.size 0 FUEL (by omega) (by rw [fuel_eq]; omega)
  rw [show ((0 : Nat) : Int) = (0 : Int) from rfl, List.drop_zero] at this
  rw [this, Option.bind_some]
  unfold exI
  by_cases h : firstC c (bl s) 0 = -1
  · rw [if_pos h, h]; rfl
  · rw [if_neg h]; rfl
def widerC (a b : Int) : Bool := decide (1 ≤ a ∧ a ≤ 6 ∧ 1 ≤ b ∧ b ≤ 6) && decide (ibits .andNot .i64 (setsV b) (setsV a) = 0)
theorem Wider_eq (a b : Int) : class_Wider a b = some (widerC a b) := by
  unfold class_Wider class_Wider_s0 widerC
  rw [Known_eq, Option.bind_some]
  by_cases ha : 1 ≤ a ∧ a ≤ 6
  · rw [decide_eq_true ha, cond_true, Known_eq, Option.bind_some]
    by_cases hb : 1 ≤ b ∧ b ≤ 6
    · rw [decide_eq_true hb, cond_true, sets_eq, Option.bind_some, sets_eq, Option.bind_some, decide_eq_true (show 1 ≤ a ∧ a ≤ 6 ∧ 1 ≤ b ∧ b ≤ 6 from ⟨ha.1, ha.2, hb.1, hb.2⟩), Bool.true_and]
      rfl
    · rw [decide_eq_false hb, cond_false, decide_eq_false (fun h => hb h.2.2)]; rfl
  · rw [decide_eq_false ha, cond_false, decide_eq_false (fun h => ha ⟨h.1, h.2.1⟩)]; rfl
theorem wider_fin : ∀ a b : Fin 7, r04_Wider (a.1 : Int) (b.1 : Int) = some (widerC (a.1 : Int) (b.1 : Int)) := by decide +kernel
theorem in_fin {c : Int} (h : 1 ≤ c ∧ c ≤ 6) : ∃ k : Fin 7, c = (k.1 : Int) := ⟨⟨c.toNat, by omega⟩, by simp; omega⟩
theorem Wider04_eq (a b : Int) : r04_Wider a b = some (widerC a b) := by
  by_cases h : (1 ≤ a ∧ a ≤ 6) ∧ (1 ≤ b ∧ b ≤ 6)
  · obtain ⟨k, rfl⟩ := in_fin h.1
    obtain ⟨m, rfl⟩ := in_fin h.2
    exact wider_fin k m
  · unfold r04_Wider r04_Wider_s0 widerC
    rw [show decide (1 ≤ a ∧ a ≤ 6 ∧ 1 ≤ b ∧ b ≤ 6) = false from decide_eq_false (fun h' => h ⟨⟨h'.1, h'.2.1⟩, h'.2.2⟩), Bool.false_and]
    by_cases h1 : a < 1
    · rw [decide_eq_true h1]; rfl
    · by_cases h2 : (6 : Int) < a
      · rw [decide_eq_false h1, decide_eq_true h2]; rfl
      · by_cases h3 : b < 1
        · rw [decide_eq_false h1, decide_eq_false h2, decide_eq_true h3]; rfl
        · have h4 : (6 : Int) < b := by omega
          rw [decide_eq_false h1, decide_eq_false h2, decide_eq_false h3, decide_eq_true h4]; rfl
end Groat
set_option linter.unusedVariables false
set_option linter.unusedSimpArgs false
namespace Groat
open Go Go.Ref
theorem byteAt_byte (s : ByteArray) (i : Nat) : isByte (byteAt s i) := by
  rw [bl_byteAt]
  exact getD_byte (fun x hx => bl_byte hx) i
theorem first_fin : ∀ b : Fin 256, tag_first (b.1 : Int) = some (decide (r08_First (b.1 : Int) ≠ some 0)) := by decide +kernel
theorem first2_fin : ∀ b : Fin 256, r08_First (b.1 : Int) = some 0 ∨ (r08_First (b.1 : Int) = some 1 ∧ decide (ibits .and .i64 (b.1 : Int) 31 = 31) = false) ∨ (r08_First (b.1 : Int) = some 2 ∧ decide (ibits .and .i64 (b.1 : Int) 31 = 31) = true) := by decide +kernel
theorem and255 (x y : Nat) (hx : x < 256) (hy : y < 256) : ibits .and .i64 (((x : Int) * 256) + (y : Int)) 255 = (y : Int) := by
  have : ((x : Int) * 256 + (y : Int)) = ((x * 256 + y : Nat) : Int) := by omega
  rw [this, show (255 : Int) = ((255 : Nat) : Int) from rfl, and_i64 (by omega) (by omega)]
  congr 1
  rw [show (255 : Nat) = 2 ^ 8 - 1 from rfl, Nat.and_two_pow_sub_one_eq_mod]
  omega
theorem shr8 (x y : Nat) (hx : x < 256) (hy : y < 256) : Int.fdiv ((x : Int) * 256 + (y : Int)) (2 ^ min ((8 : Int)).toNat 64) = (x : Int) := by
  have : ((x : Int) * 256 + (y : Int)) = ((x * 256 + y : Nat) : Int) := by omega
  rw [this, show (8 : Int) = ((8 : Nat) : Int) from rfl, fdiv_nat _ 8 (by omega)]
  congr 1
  omega
theorem right_two (x : Fin 256) (hx : r08_First (x.1 : Int) = some 2) (y : Fin 256) : tag_Right ((x.1 : Int) * 256 + (y.1 : Int)) = some (decide (1 ≤ (y.1 : Int) ∧ (y.1 : Int) ≤ 127)) := by
  have hx0 : x.1 ≠ 0 := fun e => by
    have : x = 0 := Fin.ext e
    subst this
    revert hx
    decide +kernel
  have h31 : decide (ibits .and .i64 (x.1 : Int) 31 = 31) = true := by
    rcases first2_fin x with h | ⟨h, _⟩ | ⟨_, h⟩
    · rw [h] at hx; cases hx
    · rw [h] at hx; cases hx
    · exact h
  have hf : tag_first (x.1 : Int) = some true := by rw [first_fin x, hx]; rfl
  unfold tag_Right tag_Right_s0
  rw [shr8 x.1 y.1 x.2 y.2, and255 x.1 y.1 x.2 y.2, decide_eq_false (by have := x.2; have := y.2; omega), cond_false, decide_eq_true (by have := x.2; have := y.2; omega), cond_true, hf, Option.bind_some, cond_true, h31, cond_true]
  by_cases h1 : (1 : Int) ≤ (y.1 : Int)
  · rw [decide_eq_true h1, cond_true]
    congr 1
    exact decide_eq_decide.2 ⟨fun h => ⟨h1, h⟩, fun h => h.2⟩
  · rw [decide_eq_false h1, cond_false]
    congr 1
    exact (decide_eq_false fun h => h1 h.1).symm
theorem tagGet_eq (s : ByteArray) (hs : s.size ≤ 9223372036854775000) (a : Int) : tag_Get s a = r08_Get s a := by
  unfold tag_Get tag_Get_s0 r08_Get r08_Get_s0
  by_cases h1 : a < 0
  · rw [decide_eq_true h1]; rfl
  rw [decide_eq_false h1, cond_false, cond_false]
  by_cases h2 : (s.size : Int) < a
  · rw [decide_eq_true h2]; rfl
  rw [decide_eq_false h2, cond_false, cond_false]
  by_cases h3 : a = (s.size : Int)
  · rw [decide_eq_true h3]; rfl
  have wa : ∀ {R : Type} (x : Option R), within a s.size x = x := fun x => within_int (by omega) (by omega)
  rw [decide_eq_false h3, cond_false, cond_false]
  simp only [wa]
  obtain ⟨x, hx⟩ := byte_fin (byteAt_byte s a.toNat)
  obtain ⟨y, hy⟩ := byte_fin (byteAt_byte s (IntKind.i64.wrap (a + 1)).toNat)
  have hx2 := x.2
  have hy2 := y.2
  have ob := or_bytes (byteAt_byte s a.toNat) (byteAt_byte s (IntKind.i64.wrap (a + 1)).toNat)
  rw [hx, hy] at ob
  have w1 : IntKind.i64.wrap (a + 1) = a + 1 := i64_id (by omega) (by omega)
  have w2 : IntKind.i64.wrap (x.1 : Int) = (x.1 : Int) := i64_id (by omega) (by omega)
  have w3 : IntKind.i64.wrap (y.1 : Int) = (y.1 : Int) := i64_id (by omega) (by omega)
  have w4 : IntKind.i64.wrap ((s.size : Int) - a) = (s.size : Int) - a := i64_id (by omega) (by omega)
  rw [hx, hy, w2, first_fin x, Option.bind_some]
  rw [w2] at ob
  rcases first2_fin x with h | ⟨h, h31⟩ | ⟨h, h31⟩
  · rw [h]; rfl
  · rw [h, Option.bind_some, h31]; rfl
  · rw [h, Option.bind_some, h31, ob, right_two x h y, Option.bind_some, w1, w4, w3]
    by_cases h4 : a + 1 = (s.size : Int)
    · rw [decide_eq_true h4, decide_eq_true (by omega : (s.size : Int) - a < 2)]; rfl
    · have w5 : IntKind.i64.wrap (256 * (x.1 : Int)) = 256 * (x.1 : Int) := i64_id (by omega) (by omega)
      have w6 : IntKind.i64.wrap (256 * (x.1 : Int) + (y.1 : Int)) = (x.1 : Int) * 256 + (y.1 : Int) := by rw [i64_id (by omega) (by omega)]; omega
      rw [decide_eq_false h4, decide_eq_false (by omega : ¬ (s.size : Int) - a < 2), w5, w6]
      have wb : ∀ {R : Type} (x : Option R), within (a + 1) s.size x = x := fun x => within_int (by omega) (by omega)
      simp only [wb]
      by_cases h5 : (y.1 : Int) = 0
      · rw [decide_eq_true h5, decide_eq_false (by omega : ¬ (1 ≤ (y.1 : Int) ∧ (y.1 : Int) ≤ 127))]; rfl
      · by_cases h6 : (127 : Int) < (y.1 : Int)
        · rw [decide_eq_false h5, decide_eq_true h6, decide_eq_false (by omega : ¬ (1 ≤ (y.1 : Int) ∧ (y.1 : Int) ≤ 127))]; rfl
        · rw [decide_eq_false h5, decide_eq_false h6, decide_eq_true (by omega : 1 ≤ (y.1 : Int) ∧ (y.1 : Int) ≤ 127)]; rfl
end Groat
set_option linter.unusedVariables false
set_option linter.unusedSimpArgs false
namespace Groat
open Go Go.Ref
theorem Size_eq (n : Int) : ber_Size n = some (if n < 0 ∨ 65535 < n then 0 else if 255 < n then 3 else if 127 < n then 2 else 1) := by
  unfold ber_Size ber_Size_s0
  by_cases h1 : n < 0
  · rw [decide_eq_true h1, if_pos (.inl h1)]; rfl
  by_cases h2 : (65535 : Int) < n
  · rw [decide_eq_false h1, decide_eq_true h2, if_pos (.inr h2)]; rfl
  rw [decide_eq_false h1, decide_eq_false h2, if_neg (by omega)]
  by_cases h3 : (255 : Int) < n
  · rw [decide_eq_true h3, if_pos h3]; rfl
  by_cases h4 : (127 : Int) < n
  · rw [decide_eq_false h3, decide_eq_true h4, if_neg h3, if_pos h4]; rfl
  · rw [decide_eq_false h3, decide_eq_false h4, if_neg h3, if_neg h4]; rfl
theorem fuel3 : ∃ k, FUEL = k + 1 + 1 + 1 := ⟨FUEL - 3, by rw [fuel_eq]⟩
theorem or_zero {y : Int} (hy : isByte y) : ibits .or .i64 (IntKind.i64.wrap (0 * 2 ^ min (8 : Int).toNat 64)) (IntKind.i64.wrap y) = y := by
  obtain ⟨k, rfl⟩ := byte_fin hy
  clear hy
  revert k
  decide +kernel
theorem berGet_eq (s : ByteArray) (hs : s.size ≤ 9223372036854775000) (a : Int) : ber_Get s a = r09_Get s a := by
  unfold ber_Get ber_Get_s0 r09_Get r09_Get_s0
  by_cases h1 : a < 0
  · rw [decide_eq_true h1]; rfl
  rw [decide_eq_false h1, cond_false, cond_false]
  by_cases h2 : (s.size : Int) < a
  · rw [decide_eq_true h2]; rfl
  rw [decide_eq_false h2, cond_false, cond_false]
  by_cases h3 : a = (s.size : Int)
  · rw [decide_eq_true h3]; rfl
  have wa : ∀ {R : Type} (x : Option R), within a s.size x = x := fun x => within_int (by omega) (by omega)
  rw [decide_eq_false h3, cond_false, cond_false]
  simp only [wa]
  obtain ⟨x, hx⟩ := byte_fin (byteAt_byte s a.toNat)
  have hx2 := x.2
  have w1 : IntKind.i64.wrap (a + 1) = a + 1 := i64_id (by omega) (by omega)
  have w2 : IntKind.i64.wrap (x.1 : Int) = (x.1 : Int) := i64_id (by omega) (by omega)
  have w4 : IntKind.i64.wrap ((s.size : Int) - a) = (s.size : Int) - a := i64_id (by omega) (by omega)
  have w5 : IntKind.i64.wrap ((s.size : Int) - (a + 1)) = (s.size : Int) - (a + 1) := i64_id (by omega) (by omega)
  have w6 : IntKind.i64.wrap ((x.1 : Int) - 128) = (x.1 : Int) - 128 := i64_id (by omega) (by omega)
  have w7 : IntKind.i64.wrap ((x.1 : Int) - 127) = (x.1 : Int) - 127 := i64_id (by omega) (by omega)
  obtain ⟨k, hk⟩ := fuel3
  simp only [hx, w2, w1, w4, w5, w6, w7, hk]
  by_cases h4 : (127 : Int) < (x.1 : Int)
  · rw [decide_eq_true h4, cond_true, decide_eq_false (by omega : ¬ (x.1 : Int) < 128), cond_false]
    by_cases h5 : (x.1 : Int) = 129
    · have wn : IntKind.i64.wrap (0 + 1) = 1 := rfl
      simp only [h5]
      by_cases h6 : (s.size : Int) - a < 2
      · have e1 : ((s.size : Int) - (a + 1) < 129 - 128) := by omega
        have e2 : ((s.size : Int) - a < 129 - 127) := by omega
        rw [decide_eq_true e1, decide_eq_true e2]; rfl
      · have e1 : ¬ ((s.size : Int) - (a + 1) < 129 - 128) := by omega
        have e2 : ¬ ((s.size : Int) - a < 129 - 127) := by omega
        have wb : ∀ {R : Type} (x : Option R), within (a + 1) s.size x = x := fun x => within_int (by omega) (by omega)
        have wc : ∀ {R : Type} (x : Option R), within (IntKind.i64.wrap (a + 1 + 0)) s.size x = x := fun x => by rw [Int.add_zero, w1]; exact wb x
        obtain ⟨y, hy⟩ := byte_fin (byteAt_byte s (a + 1).toNat)
        have hy2 := y.2
        have w3 : IntKind.i64.wrap (y.1 : Int) = (y.1 : Int) := i64_id (by omega) (by omega)
        have oz := or_zero (y := (y.1 : Int)) ⟨by omega, by omega⟩
        rw [w3] at oz
        rw [decide_eq_false e1, decide_eq_false e2]
        have l1 : ber_Get_l0 (k + 1 + 1 + 1) s (a + 1) 0 (129 - 128) (129 - 128) 0 = some (a + 1, (y.1 : Int), 129 - 128) := by
          simp only [ber_Get_l0, ber_Get_s1]
          rw [show decide ((0 : Int) < 129 - 128) = true from rfl, cond_true, wc, wn, show decide ((1 : Int) < 129 - 128) = false from rfl, cond_false, Int.add_zero, w1, hy, w3, oz]
        simp only [wb, hy, w3]
        show (ber_Get_l0 (k + 1 + 1 + 1) s (a + 1) 0 (129 - 128) (129 - 128) 0).bind _ = _
        rw [l1, Option.bind_some]
        unfold ber_Get_s2
        dsimp only
        rw [Size_eq, Option.bind_some]
        by_cases h7 : (y.1 : Int) < 128
        · rw [if_neg (by omega), if_neg (by omega), if_neg (by omega), decide_eq_true h7]; rfl
        · rw [if_neg (by omega), if_neg (by omega), if_pos (by omega), decide_eq_false h7]
          have : IntKind.i64.wrap (a + 1 + (129 - 128)) = IntKind.i64.wrap (a + 2) := by congr 1; omega
          simp only [this]
          rfl
    · by_cases h6 : (x.1 : Int) = 130
      · have wn : IntKind.i64.wrap (0 + 1) = 1 := rfl
        have wm : IntKind.i64.wrap (1 + 1) = 2 := rfl
        simp only [h6]
        by_cases h7 : (s.size : Int) - a < 3
        · have e1 : ((s.size : Int) - (a + 1) < 130 - 128) := by omega
          have e2 : ((s.size : Int) - a < 130 - 127) := by omega
          rw [decide_eq_true e1, decide_eq_true e2]; rfl
        · have e1 : ¬ ((s.size : Int) - (a + 1) < 130 - 128) := by omega
          have e2 : ¬ ((s.size : Int) - a < 130 - 127) := by omega
          have wb : ∀ {R : Type} (x : Option R), within (a + 1) s.size x = x := fun x => within_int (by omega) (by omega)
          have w8 : IntKind.i64.wrap (a + 2) = a + 2 := i64_id (by omega) (by omega)
          have w9 : IntKind.i64.wrap (a + 1 + 1) = a + 2 := by rw [i64_id (by omega) (by omega)]; omega
          have wd : ∀ {R : Type} (x : Option R), within (a + 2) s.size x = x := fun x => within_int (by omega) (by omega)
          obtain ⟨y, hy⟩ := byte_fin (byteAt_byte s (a + 1).toNat)
          obtain ⟨z, hz⟩ := byte_fin (byteAt_byte s (a + 2).toNat)
          have hy2 := y.2
          have hz2 := z.2
          have w3 : IntKind.i64.wrap (y.1 : Int) = (y.1 : Int) := i64_id (by omega) (by omega)
          have w3' : IntKind.i64.wrap (z.1 : Int) = (z.1 : Int) := i64_id (by omega) (by omega)
          have oz := or_zero (y := (y.1 : Int)) ⟨by omega, by omega⟩
          have ob := or_bytes (x := (y.1 : Int)) (y := (z.1 : Int)) ⟨by omega, by omega⟩ ⟨by omega, by omega⟩
          rw [w3] at oz
          rw [w3, w3'] at ob
          rw [decide_eq_false e1, decide_eq_false e2]
          have l1 : ber_Get_l0 (k + 1 + 1 + 1) s (a + 1) 0 (130 - 128) (130 - 128) 0 = some (a + 1, (y.1 : Int) * 256 + (z.1 : Int), 130 - 128) := by
            simp only [ber_Get_l0, ber_Get_s1]
            rw [show decide ((0 : Int) < 130 - 128) = true from rfl, cond_true, wn, wm, show decide ((1 : Int) < 130 - 128) = true from rfl, cond_true, show decide ((2 : Int) < 130 - 128) = false from rfl, cond_false, Int.add_zero, w1, wb, w9, wd, hy, hz, w3, w3', oz, ob]
          have w5' : IntKind.i64.wrap (256 * (y.1 : Int)) = 256 * (y.1 : Int) := i64_id (by omega) (by omega)
          have w6' : IntKind.i64.wrap (256 * (y.1 : Int) + (z.1 : Int)) = (y.1 : Int) * 256 + (z.1 : Int) := by rw [i64_id (by omega) (by omega)]; omega
          simp only [wb, w8, wd, hy, hz, w3, w3', w5', w6']
          show (ber_Get_l0 (k + 1 + 1 + 1) s (a + 1) 0 (130 - 128) (130 - 128) 0).bind _ = _
          rw [l1, Option.bind_some]
          unfold ber_Get_s2
          dsimp only
          rw [Size_eq, Option.bind_some]
          by_cases h8 : (y.1 : Int) = 0
          · rw [if_neg (by omega), if_neg (by omega), decide_eq_true h8]
            by_cases h9 : (127 : Int) < (y.1 : Int) * 256 + (z.1 : Int)
            · rw [if_pos h9]; rfl
            · rw [if_neg h9]; rfl
          · rw [if_neg (by omega), if_pos (by omega), decide_eq_false h8]
            have : IntKind.i64.wrap (a + 1 + (130 - 128)) = IntKind.i64.wrap (a + 3) := by congr 1; omega
            simp only [this]
            rfl
      · rw [decide_eq_false h5, decide_eq_false h6]
        by_cases h7 : (x.1 : Int) = 128
        · rw [decide_eq_true h7]; rfl
        · rw [decide_eq_false h7, decide_eq_true (by omega : (130 : Int) < (x.1 : Int))]; rfl
  · rw [decide_eq_false h4, cond_false, decide_eq_true (by omega : (x.1 : Int) < 128), cond_true, decide_eq_false (by omega : ¬ (s.size : Int) - (a + 1) < 0), cond_false]
    have l1 : ber_Get_l0 (k + 1 + 1 + 1) s (a + 1) (x.1 : Int) 0 0 0 = some (a + 1, (x.1 : Int), 0) := by
      simp only [ber_Get_l0, ber_Get_s1]
      rw [show decide ((0 : Int) < 0) = false from rfl, cond_false]
    show (ber_Get_l0 (k + 1 + 1 + 1) s (a + 1) (x.1 : Int) 0 0 0).bind _ = _
    rw [l1, Option.bind_some]
    unfold ber_Get_s2
    dsimp only
    rw [Size_eq, Option.bind_some, if_neg (by omega), if_neg (by omega), if_neg (by omega), Int.add_zero, w1]
    rfl
end Groat
set_option linter.unusedVariables false
set_option linter.unusedSimpArgs false
namespace Groat
open Go Go.Ref
abbrev Val := Int × ByteArray × Unit
theorem has10_loop (l : List Val) (hl : l.length ≤ 9223372036854775807) (t : Int) : ∀ (m j k : Nat), j + m = l.length → m < k → r10_has_l0 k l (l.length : Int) t (j : Int) = some (if t ∈ (l.drop j).map (fun v => v.1) then .inl true else .inr ())
  | m, j, 0, _, hk => by omega
  | 0, j, k + 1, hj, hk => by
    unfold r10_has_l0 r10_has_s1
    rw [decide_eq_false (by omega), List.drop_eq_nil_of_le (by omega)]; rfl
  | m + 1, j, k + 1, hj, hk => by
    have hlt : j < l.length := by omega
    have hg : ∀ d, l.getD j d = l[j] := fun d => by rw [List.getD_eq_getElem?_getD, List.getElem?_eq_getElem hlt]; rfl
    unfold r10_has_l0 r10_has_s1
    rw [decide_eq_true (by omega), cond_true, within_nat_lt hlt, Int.toNat_natCast, hg, List.drop_eq_getElem_cons hlt, List.map_cons]
    by_cases h : l[j].1 = t
    · rw [decide_eq_true h, if_pos (by rw [h]; exact List.mem_cons_self)]; rfl
    · rw [decide_eq_false h, cond_false, i64_succ (by omega)]
      dsimp only
      rw [has10_loop l hl t m (j + 1) k (by omega) (by omega)]
      by_cases h2 : t ∈ (l.drop (j + 1)).map (fun v => v.1)
      · rw [if_pos h2, if_pos (List.mem_cons_of_mem _ h2)]
      · rw [if_neg h2, if_neg (fun h3 => (List.mem_cons.1 h3).elim (fun e => h e.symm) h2)]
theorem has10_eq (l : List Val) (hl : l.length ≤ maxLen) (t : Int) : r10_has l (l.length : Int) t = some (decide (t ∈ l.map fun v => v.1)) := by
  rw [maxLen_eq] at hl
  unfold r10_has r10_has_s0
  dsimp only
  have := has10_loop l hl t l.length 0 FUEL (by omega) (by rw [fuel_eq]; omega)
  rw [show ((0 : Nat) : Int) = (0 : Int) from rfl, List.drop_zero] at this
  rw [this, Option.bind_some]
  by_cases h : t ∈ l.map fun v => v.1
  · rw [if_pos h, decide_eq_true h]; rfl
  · rw [if_neg h, decide_eq_false h]; rfl
theorem tlv_loop (b : ByteArray) (hb : b.size ≤ 9223372036854775000) : ∀ (k : Nat) (t5 : List Val) (t7 : Int), t5.length ≤ 5864062014805 → tlv_Get_l0 k b t5 t7 (seenM (t5.map fun v => v.1)) = r10_Get_l0 k b t5 t7
  | 0, _, _, _ => rfl
  | k + 1, t5, t7, hl => by
    unfold tlv_Get_l0 tlv_Get_s1 r10_Get_l0 r10_Get_s1
    rw [tagGet_eq b hb]
    generalize decide (t7 < (b.size : Int)) = c0
    cases c0 with
    | false => rfl
    | true =>
      simp only [cond_true]
      cases r08_Get b t7 with
      | none => rfl
      | some r1 =>
        simp only [Option.bind_some]
        generalize (!decide (r1.2.2 = 0)) = c1
        cases c1 with
        | true => rfl
        | false =>
          simp only [cond_false]
          rw [berGet_eq b hb]
          cases r09_Get b r1.2.1 with
          | none => rfl
          | some r2 =>
            simp only [Option.bind_some]
            generalize (!decide (r2.2.2 = 0)) = c2
            cases c2 with
            | true => rfl
            | false =>
              simp only [cond_false]
              generalize decide (IntKind.i64.wrap ((b.size : Int) - r2.2.1) < r2.1) = c3
              cases c3 with
              | true => rfl
              | false =>
                simp only [cond_false]
                rw [has10_eq t5 (by rw [maxLen_eq]; omega), Option.bind_some]
                have e1 := mget_seen (eqK (.int .i64)) (fun _ _ => rfl) r1.1 (t5.map fun v => v.1)
                have e2 := mhas_seen (eqK (.int .i64)) (fun _ _ => rfl) r1.1 (t5.map fun v => v.1)
                by_cases hm : r1.1 ∈ t5.map fun v => v.1
                · rw [e1.2 hm, decide_eq_true hm]; rfl
                · rw [not_true' e1 hm, not_true' e2 hm, decide_eq_false hm]
                  simp only [cond_false]
                  rw [seenM_append]
                  have hs : (t5.map fun v => v.1) ++ [r1.1] = (t5 ++ [((r1.1, (b.extract r2.2.1.toNat (IntKind.i64.wrap (r2.2.1 + r2.1)).toNat), ()) : Val)]).map fun v => v.1 := by simp
                  rw [hs]
                  by_cases hn : (t5.length + 1) * 24 ≤ 140737488355328
                  · rw [tlv_loop b hb k _ _ (by simp; omega)]
                  · have : decide ((t5.length + (List.length ([(r1.1, (b.extract r2.2.1.toNat (IntKind.i64.wrap (r2.2.1 + r2.1)).toNat), ())] : List Val))) * 24 ≤ 140737488355328) = false := decide_eq_false (by simp; omega)
                    simp only [this, cond_false]
theorem tlvGet_eq (b : ByteArray) (hb : b.size ≤ 9223372036854775000) : tlv_Get b = r10_Get b := by
  unfold tlv_Get tlv_Get_s0 r10_Get r10_Get_s0
  dsimp only
  have := tlv_loop b hb FUEL [] 0 (by simp)
  rw [show seenM (([] : List Val).map fun v => v.1) = [] from rfl] at this
  rw [this]
  rfl
theorem Value_eq (s : Spec) (x : ByteArray) (hx : x.size ≤ 9223372036854775000) : spec_Value s x = r11_Value s x := by
  unfold spec_Value spec_Value_s0 r11_Value r11_Value_s0
  rw [specCheck_eq, specCheck11_eq, First_eq _ _ (by rw [maxLen_eq]; omega), First04_eq _ _ (by rw [maxLen_eq]; omega), tlvGet_eq x hx]
theorem specWider_eq (a b : Spec) : spec_Wider a b = r11_Wider a b := by
  unfold spec_Wider spec_Wider_s0 r11_Wider r11_Wider_s0 spec_classes spec_classes_s0
  rw [specCheck_eq, specCheck11_eq, specCheck_eq, specCheck11_eq, Wider_eq, Wider04_eq]
  simp only [Option.bind_some]
  by_cases h1 : specC a = 0
  · by_cases h2 : specC b = 0
    · simp only [h1, h2, decide_true, cond_true, Bool.not_true, cond_false]
      by_cases h3 : a.2.2.2.1 ≤ b.2.2.2.1
      · rw [decide_eq_true h3, decide_eq_false (by omega : ¬ b.2.2.2.1 < a.2.2.2.1)]
        by_cases h4 : b.2.2.2.2.1 ≤ a.2.2.2.2.1
        · rw [decide_eq_true h4, decide_eq_false (by omega : ¬ a.2.2.2.2.1 < b.2.2.2.2.1)]
          simp only [cond_true, cond_false]
          by_cases h5 : a.2.1 = 5
          · simp [h5]
          · by_cases h6 : a.2.1 = 6
            · simp [h6]
            · by_cases h7 : b.2.1 = 6
              · simp [h5, h6, h7]
              · simp [h5, h6, h7]
        · rw [decide_eq_false h4, decide_eq_true (by omega : a.2.2.2.2.1 < b.2.2.2.2.1)]; rfl
      · rw [decide_eq_false h3, decide_eq_true (by omega : b.2.2.2.1 < a.2.2.2.1)]; rfl
    · simp [h1, h2]
  · simp [h1]
end Groat
set_option linter.unusedVariables false
set_option linter.unusedSimpArgs false
namespace Groat
open Go Go.Ref
theorem tag_total (s : ByteArray) (hs : s.size ≤ 9223372036854775000) (a : Int) (h0 : 0 ≤ a) (h1 : a < s.size) : ∃ r, r08_Get s a = some r ∧ (r.2.2 = 0 → a < r.2.1 ∧ r.2.1 ≤ s.size) := by
  unfold r08_Get r08_Get_s0
  have wa : ∀ {R : Type} (x : Option R), within a s.size x = x := fun x => within_int (by omega) (by omega)
  rw [decide_eq_false (by omega : ¬ a < 0), decide_eq_false (by omega : ¬ (s.size : Int) < a), decide_eq_false (by omega : ¬ a = (s.size : Int))]
  simp only [cond_false, wa]
  obtain ⟨x, hx⟩ := byte_fin (byteAt_byte s a.toNat)
  have w1 : IntKind.i64.wrap (a + 1) = a + 1 := i64_id (by omega) (by omega)
  have w4 : IntKind.i64.wrap ((s.size : Int) - a) = (s.size : Int) - a := i64_id (by omega) (by omega)
  rw [hx, w1, w4]
  rcases first2_fin x with h | ⟨h, h31⟩ | ⟨h, h31⟩
  · rw [h]; exact ⟨_, rfl, fun h => by cases h⟩
  · rw [h]
    exact ⟨_, rfl, fun _ => ⟨by show a < a + 1; omega, by show a + 1 ≤ _; omega⟩⟩
  · rw [h, Option.bind_some]
    simp only [show decide ((2 : Int) = 0) = false from rfl, show decide ((2 : Int) = 1) = false from rfl, cond_false]
    by_cases h4 : (s.size : Int) - a < 2
    · rw [decide_eq_true h4]; exact ⟨_, rfl, fun h => by cases h⟩
    · have wb : ∀ {R : Type} (x : Option R), within (a + 1) s.size x = x := fun x => within_int (by omega) (by omega)
      have w2 : IntKind.i64.wrap (a + 2) = a + 2 := i64_id (by omega) (by omega)
      rw [decide_eq_false h4]
      simp only [cond_false, wb]
      generalize decide (byteAt s (a + 1).toNat = 0) = c1
      generalize decide ((127 : Int) < byteAt s (a + 1).toNat) = c2
      cases c1
      · cases c2
        · exact ⟨_, rfl, fun _ => ⟨by show a < IntKind.i64.wrap (a + 2); rw [w2]; omega, by show IntKind.i64.wrap (a + 2) ≤ _; rw [w2]; omega⟩⟩
        · exact ⟨_, rfl, fun h => by cases h⟩
      · exact ⟨_, rfl, fun h => by cases h⟩
theorem ber_total (s : ByteArray) (hs : s.size ≤ 9223372036854775000) (a : Int) (h0 : 0 ≤ a) (h1 : a ≤ s.size) : ∃ r, r09_Get s a = some r ∧ (r.2.2 = 0 → a < r.2.1 ∧ r.2.1 ≤ s.size ∧ 0 ≤ r.1 ∧ r.1 ≤ 65535) := by
  unfold r09_Get r09_Get_s0
  rw [decide_eq_false (by omega : ¬ a < 0), decide_eq_false (by omega : ¬ (s.size : Int) < a)]
  simp only [cond_false]
  by_cases he : a = (s.size : Int)
  · rw [decide_eq_true he]; exact ⟨_, rfl, fun h => by cases h⟩
  have wa : ∀ {R : Type} (x : Option R), within a s.size x = x := fun x => within_int (by omega) (by omega)
  rw [decide_eq_false he]
  simp only [cond_false, wa]
  obtain ⟨x, hx⟩ := byte_fin (byteAt_byte s a.toNat)
  have hx2 := x.2
  have w1 : IntKind.i64.wrap (a + 1) = a + 1 := i64_id (by omega) (by omega)
  have w2 : IntKind.i64.wrap (x.1 : Int) = (x.1 : Int) := i64_id (by omega) (by omega)
  have w4 : IntKind.i64.wrap ((s.size : Int) - a) = (s.size : Int) - a := i64_id (by omega) (by omega)
  have w7 : IntKind.i64.wrap ((x.1 : Int) - 127) = (x.1 : Int) - 127 := i64_id (by omega) (by omega)
  simp only [hx, w2, w1, w4, w7]
  by_cases h4 : (x.1 : Int) < 128
  · rw [decide_eq_true h4]
    exact ⟨_, rfl, fun _ => ⟨by show a < a + 1; omega, by show a + 1 ≤ _; omega, by show (0 : Int) ≤ (x.1 : Int); omega, by show (x.1 : Int) ≤ 65535; omega⟩⟩
  rw [decide_eq_false h4]
  have h08 : ∀ i, isByte (byteAt s i) := byteAt_byte s
  by_cases h5 : (x.1 : Int) = 129
  · have wb : (s.size : Int) - a < (x.1 : Int) - 127 ∨ ∀ {R : Type} (x : Option R), within (a + 1) s.size x = x := by
      by_cases h : (s.size : Int) - a < (x.1 : Int) - 127
      · exact .inl h
      · exact .inr fun x => within_int (by omega) (by omega)
    rw [decide_eq_true h5]
    simp only [Bool.not_true, cond_false, cond_true]
    by_cases h6 : (s.size : Int) - a < (x.1 : Int) - 127
    · rw [decide_eq_true h6]; exact ⟨_, rfl, fun h => by cases h⟩
    · have wb : ∀ {R : Type} (x : Option R), within (a + 1) s.size x = x := fun x => within_int (by omega) (by omega)
      have w8 : IntKind.i64.wrap (a + 2) = a + 2 := i64_id (by omega) (by omega)
      obtain ⟨y, hy⟩ := byte_fin (h08 (a + 1).toNat)
      have hy2 := y.2
      have w3 : IntKind.i64.wrap (y.1 : Int) = (y.1 : Int) := i64_id (by omega) (by omega)
      rw [decide_eq_false h6]
      simp only [cond_false, wb, hy, w3, w8]
      generalize decide ((y.1 : Int) < 128) = c
      cases c
      · exact ⟨_, rfl, fun _ => ⟨by show a < a + 2; omega, by show a + 2 ≤ _; omega, by show (0 : Int) ≤ (y.1 : Int); omega, by show (y.1 : Int) ≤ 65535; omega⟩⟩
      · exact ⟨_, rfl, fun h => by cases h⟩
  · rw [decide_eq_false h5]
    simp only [Bool.not_false, cond_false, cond_true]
    by_cases h9 : (x.1 : Int) = 130
    · rw [decide_eq_true h9]
      simp only [Bool.not_true, cond_false]
      by_cases h6 : (s.size : Int) - a < (x.1 : Int) - 127
      · rw [decide_eq_true h6]; exact ⟨_, rfl, fun h => by cases h⟩
      · have wb : ∀ {R : Type} (x : Option R), within (a + 1) s.size x = x := fun x => within_int (by omega) (by omega)
        have w8 : IntKind.i64.wrap (a + 2) = a + 2 := i64_id (by omega) (by omega)
        have w9 : IntKind.i64.wrap (a + 3) = a + 3 := i64_id (by omega) (by omega)
        have wd : ∀ {R : Type} (x : Option R), within (a + 2) s.size x = x := fun x => within_int (by omega) (by omega)
        obtain ⟨y, hy⟩ := byte_fin (h08 (a + 1).toNat)
        obtain ⟨z, hz⟩ := byte_fin (h08 (a + 2).toNat)
        have hy2 := y.2
        have hz2 := z.2
        have w3 : IntKind.i64.wrap (y.1 : Int) = (y.1 : Int) := i64_id (by omega) (by omega)
        have w3' : IntKind.i64.wrap (z.1 : Int) = (z.1 : Int) := i64_id (by omega) (by omega)
        have w5' : IntKind.i64.wrap (256 * (y.1 : Int)) = 256 * (y.1 : Int) := i64_id (by omega) (by omega)
        have w6' : IntKind.i64.wrap (256 * (y.1 : Int) + (z.1 : Int)) = 256 * (y.1 : Int) + (z.1 : Int) := i64_id (by omega) (by omega)
        rw [decide_eq_false h6]
        simp only [cond_false, wb, w8, wd, hy, hz, w3, w3', w5', w6', w9]
        generalize decide ((y.1 : Int) = 0) = c
        cases c
        · exact ⟨_, rfl, fun _ => ⟨by show a < a + 3; omega, by show a + 3 ≤ _; omega, by show (0 : Int) ≤ 256 * (y.1 : Int) + (z.1 : Int); omega, by show 256 * (y.1 : Int) + (z.1 : Int) ≤ 65535; omega⟩⟩
        · exact ⟨_, rfl, fun h => by cases h⟩
    · rw [decide_eq_false h9]; exact ⟨_, rfl, fun h => by cases h⟩
theorem tlv10_total_loop (b : ByteArray) (hb : b.size ≤ 1099511627776) : ∀ (n : Nat) (k : Nat) (t5 : List Val) (a : Int), 0 ≤ a → a ≤ b.size → (b.size : Int) - a ≤ n → n < k → t5.length + n ≤ 2199023255552 → ∃ r, r10_Get_l0 k b t5 a = some r
  | n, 0, _, _, _, _, _, h, _ => by omega
  | n, k + 1, t5, a, h0, h1, h2, h3, h4 => by
    unfold r10_Get_l0 r10_Get_s1
    by_cases hlt : a < (b.size : Int)
    · obtain ⟨r1, e1, p1⟩ := tag_total b (by omega) a h0 hlt
      rw [decide_eq_true hlt, e1, Option.bind_some, cond_true]
      by_cases z1 : r1.2.2 = 0
      · obtain ⟨q1, q2⟩ := p1 z1
        obtain ⟨r2, e2, p2⟩ := ber_total b (by omega) r1.2.1 (by omega) q2
        simp only [z1, decide_true, Bool.not_true, cond_false]
        rw [e2, Option.bind_some]
        by_cases z2 : r2.2.2 = 0
        · obtain ⟨u1, u2, u3, u4⟩ := p2 z2
          simp only [z2, decide_true, Bool.not_true, cond_false]
          have w1 : IntKind.i64.wrap ((b.size : Int) - r2.2.1) = (b.size : Int) - r2.2.1 := i64_id (by omega) (by omega)
          have w2 : IntKind.i64.wrap (r2.2.1 + r2.1) = r2.2.1 + r2.1 := i64_id (by omega) (by omega)
          rw [w1, w2]
          by_cases z3 : (b.size : Int) - r2.2.1 < r2.1
          · rw [decide_eq_true z3]; exact ⟨_, rfl⟩
          · rw [decide_eq_false z3, cond_false, has10_eq t5 (by rw [maxLen_eq]; omega), Option.bind_some]
            generalize decide (r1.1 ∈ t5.map fun v => v.1) = c
            cases c with
            | true => exact ⟨_, rfl⟩
            | false =>
              rw [cond_false, decide_eq_true (by omega : 0 ≤ r2.2.1 + r2.1), decide_eq_true (by omega : r2.2.1 + r2.1 ≤ (((b.size : Nat) : Int))), decide_eq_true (by omega : 0 ≤ r2.2.1), decide_eq_true (by omega : r2.2.1 ≤ (((r2.2.1 + r2.1).toNat : Nat) : Int)), decide_eq_true (by simp; omega)]
              simp only [cond_true]
              obtain ⟨n, rfl⟩ : ∃ n', n = n' + 1 := ⟨n - 1, by omega⟩
              exact tlv10_total_loop b hb n k _ _ (by omega) (by omega) (by omega) (by omega) (by simp; omega)
        · simp only [z2, decide_false, Bool.not_false, cond_true]; exact ⟨_, rfl⟩
      · simp only [z1, decide_false, Bool.not_false, cond_true]; exact ⟨_, rfl⟩
    · rw [decide_eq_false hlt]; exact ⟨_, rfl⟩
theorem tlv10_total (b : ByteArray) (hb : b.size ≤ 1099511627776) : ∃ r, r10_Get b = some r := by
  unfold r10_Get r10_Get_s0
  dsimp only
  obtain ⟨r, hr⟩ := tlv10_total_loop b hb b.size FUEL [] 0 (by omega) (by omega) (by omega) (by rw [fuel_eq]; omega) (by simp; omega)
  rw [hr, Option.bind_some]
  cases r <;> exact ⟨_, rfl⟩
@[irreducible] def valC (s : Spec) (x : ByteArray) : Int := (r11_Value s x).getD 0
theorem Value11_eq (s : Spec) (x : ByteArray) (hx : x.size ≤ 1099511627776) : r11_Value s x = some (valC s x) := by
  have : ∃ v, r11_Value s x = some v := by
    unfold r11_Value r11_Value_s0
    rw [specCheck11_eq, Option.bind_some, First04_eq _ _ (by rw [maxLen_eq]; omega), Option.bind_some]
    obtain ⟨r, hr⟩ := tlv10_total x hx
    rw [hr, Option.bind_some]
    generalize (!decide (specC s = 0)) = c1
    generalize decide ((x.size : Int) < s.2.2.2.1) = c2
    generalize decide (s.2.2.2.2.1 < (x.size : Int)) = c3
    generalize decide ((0 : Int) ≤ firstC s.2.1 (bl x) 0) = c4
    generalize decide (s.2.1 = 6) = c5
    cases c1 <;> cases c2 <;> cases c3 <;> cases c4 <;> cases c5 <;> first | exact ⟨_, rfl⟩ | skip
    cases r with
    | inl r => simp only [cond_false, cond_true, Sum.elim_inl]; cases (!decide (r.2.1 = 0)) <;> exact ⟨_, rfl⟩
    | inr r => simp only [cond_false, cond_true, Sum.elim_inr]; cases (!decide (r.2.1 = 0)) <;> exact ⟨_, rfl⟩
  obtain ⟨v, hv⟩ := this
  unfold valC
  rw [hv]; rfl
theorem Value_eq' (s : Spec) (x : ByteArray) (hx : x.size ≤ 1099511627776) : spec_Value s x = some (valC s x) := by
  rw [Value_eq s x (by omega), Value11_eq s x hx]
@[irreducible] def widS (a b : Spec) : Bool := (r11_Wider a b).getD false
theorem Wider11_eq (a b : Spec) : r11_Wider a b = some (widS a b) := by
  have : ∃ v, r11_Wider a b = some v := by
    unfold r11_Wider r11_Wider_s0
    rw [specCheck11_eq, specCheck11_eq, Wider04_eq]
    simp only [Option.bind_some]
    generalize (!decide (specC a = 0)) = c1
    generalize (!decide (specC b = 0)) = c2
    generalize decide (b.2.2.2.1 < a.2.2.2.1) = c3
    generalize decide (a.2.2.2.2.1 < b.2.2.2.2.1) = c4
    generalize decide (a.2.1 = 5) = c5
    generalize decide (a.2.1 = 6) = c6
    generalize decide (b.2.1 = 6) = c7
    cases c1 <;> cases c2 <;> cases c3 <;> cases c4 <;> cases c5 <;> cases c6 <;> cases c7 <;> exact ⟨_, rfl⟩
  obtain ⟨v, hv⟩ := this
  unfold widS
  rw [hv]; rfl
theorem Wider_eq' (a b : Spec) : spec_Wider a b = some (widS a b) := by rw [specWider_eq, Wider11_eq]
end Groat
set_option linter.unusedVariables false
set_option linter.unusedSimpArgs false
namespace Groat
open Go Go.Ref
abbrev Rule := Int × Int × Int × ByteArray × List Pair × Unit
def getS (s : Schema) (no : Int) : Spec := (findS s.2.2.1 no).getD spec0
def hasS (s : Schema) (no : Int) : Bool := (findS s.2.2.1 no).isSome
theorem Find_eq2 (s : Schema) (no : Int) (hl : s.2.2.1.length ≤ maxLen) : schema_Find s no = some (getS s no, hasS s no) := by
  rw [Find_eq s no hl]
  unfold getS hasS
  cases findS s.2.2.1 no <;> rfl
def endsE (r : Rule) (a b : Schema) : Bool :=
  (bif decide (r.1 = 3) then !decide (r.2.1 = 0) else !hasS a r.2.1) || (bif decide (r.1 = 2) then !decide (r.2.2.1 = 0) else !hasS b r.2.2.1)
def textE (r : Rule) : Bool := (!decide (r.2.2.2.1 = bs []) && !decide (r.1 = 3)) || (decide (0 < (r.2.2.2.2.1.length : Int)) && !decide (r.1 = 5))
def padS (s : Spec) : Bool := decide (s.2.1 = 1) && decide (s.2.2.1 = 1)
def valsC : List Pair → Spec → Spec → Int
  | [], _, _ => 0
  | p :: r, x, y => bif !decide (valC x p.1 = 0) then valC x p.1 else bif !decide (valC y p.2.1 = 0) then valC y p.2.1 else valsC r x y
def tableR (l : List Pair) (x y : Spec) : Int := bif (!decide ((tableC l).1 = 0) || decide ((l.length : Int) = 0)) then 15 else valsC l x y
def kindC (r : Rule) (x y : Spec) : Int :=
  bif decide (r.1 = 1) then (bif widS y x then 0 else 6) else bif decide (r.1 = 3) then valC y r.2.2.2.1 else bif decide (r.1 = 4) then (bif padS x && padS y then 0 else 6) else bif decide (r.1 = 5) then tableR r.2.2.2.2.1 x y else 0
def ruleC (r : Rule) (a b : Schema) : Int :=
  bif decide (r.1 < 1) || decide (5 < r.1) then 1 else bif endsE r a b then 9 else bif textE r then 3 else kindC r (getS a r.2.1) (getS b r.2.2.1)
structure PairsOk (l : List Pair) : Prop where
  len : l.length ≤ 1000000
  sz : ∀ p ∈ l, p.1.size ≤ 1099511627776 ∧ p.2.1.size ≤ 1099511627776
structure RuleOk (r : Rule) : Prop where
  text : r.2.2.2.1.size ≤ 1099511627776
  pairs : PairsOk r.2.2.2.2.1
theorem ends_eq (r : Rule) (a b : Schema) (ha : a.2.2.1.length ≤ maxLen) (hb : b.2.2.1.length ≤ maxLen) : rule_ends r a b = some (getS a r.2.1, getS b r.2.2.1, bif endsE r a b then 9 else 0) := by
  unfold rule_ends rule_ends_s0 endsE
  rw [Find_eq2 a _ ha, Find_eq2 b _ hb]
  simp only [Option.bind_some]
  generalize decide (r.1 = 3) = k3
  generalize decide (r.1 = 2) = k2
  generalize decide (r.2.1 = 0) = z1
  generalize decide (r.2.2.1 = 0) = z2
  generalize hasS a r.2.1 = h1
  generalize hasS b r.2.2.1 = h2
  cases k3 <;> cases k2 <;> cases z1 <;> cases z2 <;> cases h1 <;> cases h2 <;> rfl
theorem padded_eq (s : Spec) : rule_padded s = some (padS s) := by
  unfold rule_padded rule_padded_s0 padS
  generalize decide (s.2.1 = 1) = c1
  generalize decide (s.2.2.1 = 1) = c2
  cases c1 <;> cases c2 <;> rfl
def vres (v : Int) : Sum Int Unit := if v = 0 then .inr () else .inl v
theorem table_run (x y : Spec) : ∀ (l : List Pair) (i : Int), (∀ p ∈ l, p.1.size ≤ 1099511627776 ∧ p.2.1.size ≤ 1099511627776) →
    runI (fun i (p : Pair) (s : Unit) K => ((spec_Value x p.1).bind fun r2 => (bif (!decide (r2 = 0)) then some (Sum.inl r2) else ((spec_Value y p.2.1).bind fun r3 => (bif (!decide (r3 = 0)) then some (Sum.inl r3) else K s))))) (fun _ => some (Sum.inr ())) l i () = some (vres (valsC l x y))
  | [], i, _ => rfl
  | p :: r, i, h => by
    obtain ⟨h1, h2⟩ := h p List.mem_cons_self
    simp only [runI, valsC]
    rw [Value_eq' x p.1 h1, Option.bind_some]
    by_cases z1 : valC x p.1 = 0
    · rw [decide_eq_true z1]
      simp only [Bool.not_true, cond_false]
      rw [Value_eq' y p.2.1 h2, Option.bind_some]
      by_cases z2 : valC y p.2.1 = 0
      · rw [decide_eq_true z2]
        simp only [Bool.not_true, cond_false]
        exact table_run x y r (i + 1) fun q hq => h q (List.mem_cons_of_mem _ hq)
      · rw [decide_eq_false z2]
        simp only [Bool.not_false, cond_true, vres, if_neg z2]
    · rw [decide_eq_false z1]
      simp only [Bool.not_false, cond_true, vres, if_neg z1]
theorem table_eq (l : List Pair) (x y : Spec) (h : PairsOk l) : rule_table l x y = some (tableR l x y) := by
  have hl := h.len
  unfold rule_table rule_table_s0 tableR
  dsimp only
  rw [codesCheck_eq l (by rw [maxLen_eq]; omega), Option.bind_some]
  cases (!decide ((tableC l).1 = 0)) with
  | true => rfl
  | false =>
    cases decide ((l.length : Int) = 0) with
    | true => rfl
    | false =>
      simp only [cond_false, Bool.or_false]
      have := loopI pair0 l (by rw [maxLen_eq]; omega) (fun i (p : Pair) (s : Unit) K => ((spec_Value x p.1).bind fun r2 => (bif (!decide (r2 = 0)) then some (Sum.inl r2) else ((spec_Value y p.2.1).bind fun r3 => (bif (!decide (r3 = 0)) then some (Sum.inl r3) else K s))))) (fun _ => some (Sum.inr ()))
        (fun k i s => rule_table_l0 k l (l.length : Int) i x y) (fun k i s => rfl) ()
      rw [this, table_run x y l 0 h.sz, Option.bind_some]
      unfold vres
      by_cases z : valsC l x y = 0
      · rw [if_pos z, z]; rfl
      · rw [if_neg z]; rfl
theorem ruleCheck_eq (r : Rule) (a b : Schema) (h : RuleOk r) (ha : a.2.2.1.length ≤ maxLen) (hb : b.2.2.1.length ≤ maxLen) : rule_Check r a b = some (ruleC r a b) := by
  unfold rule_Check rule_Check_s0 ruleC kindC textE
  rw [ends_eq r a b ha hb]
  simp only [Option.bind_some, Wider_eq', Value_eq' _ _ h.text, padded_eq, table_eq _ _ _ h.pairs]
  generalize endsE r a b = e
  generalize decide (r.1 < 1) = c1
  generalize decide ((5 : Int) < r.1) = c2
  generalize decide (r.2.2.2.1 = bs []) = t
  generalize decide ((0 : Int) < (r.2.2.2.2.1.length : Int)) = p
  generalize decide (r.1 = 1) = k1
  generalize decide (r.1 = 3) = k3
  generalize decide (r.1 = 4) = k4
  generalize decide (r.1 = 5) = k5
  generalize padS (getS a r.2.1) = p1
  generalize padS (getS b r.2.2.1) = p2
  generalize widS (getS b r.2.2.1) (getS a r.2.1) = w
  cases c1 <;> cases c2 <;> first | rfl | skip
  cases e <;> first | rfl | skip
  cases t <;> cases p <;> cases k3 <;> cases k5 <;> first | rfl | skip
  all_goals (cases k1 <;> cases k4 <;> cases p1 <;> cases p2 <;> cases w <;> rfl)
end Groat
set_option linter.unusedVariables false
set_option linter.unusedSimpArgs false
namespace Groat
open Go Go.Ref
end Groat
set_option linter.unusedVariables false
set_option linter.unusedSimpArgs false
namespace Groat
open Go Go.Ref
def rightM (m : ByteArray) : Bool := decide ((m.size : Int) = 4) && allD (bl m)
theorem rightM_iff {m : ByteArray} : rightM m = true ↔ m.size = 4 ∧ allD (bl m) = true := by
  unfold rightM
  rw [Bool.and_eq_true, decide_eq_true_eq]
  constructor <;> intro h <;> exact ⟨by omega, h.2⟩
theorem mtiRight_eq (m : ByteArray) (h : m.size ≤ maxLen) : mti_Right m = some (rightM m) := by
  unfold mti_Right mti_Right_s0 rightM
  cases decide ((m.size : Int) = 4) with
  | false => rfl
  | true => rw [cond_true, All_eq m h]; rfl
theorem dig_at {m : ByteArray} (h : rightM m = true) (i : Nat) (hi : i < 4) : 48 ≤ byteAt m i ∧ byteAt m i ≤ 57 := by
  obtain ⟨h1, h2⟩ := rightM_iff.1 h
  have hl : i < (bl m).length := by rw [bl_length]; omega
  have := List.all_eq_true.1 h2 _ (List.getElem_mem hl)
  rw [bl_byteAt, List.getD_eq_getElem?_getD, List.getElem?_eq_getElem hl]
  exact of_decide_eq_true this
def verM (m : ByteArray) : Int := bif rightM m then byteAt m 0 - 48 else 0
def reqM (m : ByteArray) : Bool := rightM m && (decide (byteAt m 2 = 48) || decide (byteAt m 2 = 50))
theorem Version_eq (m : ByteArray) (h : m.size ≤ maxLen) : mti_Version m = some (verM m, rightM m) := by
  unfold mti_Version mti_Version_s0 verM
  rw [mtiRight_eq m h, Option.bind_some]
  cases hr : rightM m with
  | false => rfl
  | true =>
    obtain ⟨h1, _⟩ := rightM_iff.1 hr
    have := dig_at hr 0 (by omega)
    simp only [Bool.not_true, cond_false, cond_true]
    rw [within_int (by omega) (by omega), show (0 : Int).toNat = 0 from rfl, u8_id (by omega) (by omega), i64_id (by omega) (by omega)]
theorem Request_eq (m : ByteArray) (h : m.size ≤ maxLen) : mti_Request m = some (reqM m) := by
  unfold mti_Request mti_Request_s0 reqM
  rw [mtiRight_eq m h, Option.bind_some]
  cases hr : rightM m with
  | false => rfl
  | true =>
    obtain ⟨h1, _⟩ := rightM_iff.1 hr
    rw [cond_true, within_int (by omega) (by omega), within_int (by omega) (by omega), show (2 : Int).toNat = 2 from rfl]
    cases decide (byteAt m 2 = 48) <;> rfl
def versM (m : ByteArray) (v : Int) : Bool := rightM m && decide (byteAt m 0 - 48 = v)
def typedP (p : Pair) (a b : Schema) : Bool := versM p.1 a.2.1 && (versM p.2.1 b.2.1 && (reqM p.1 == reqM p.2.1))
theorem typed_eq (p : Pair) (a b : Schema) (h1 : p.1.size ≤ maxLen) (h2 : p.2.1.size ≤ maxLen) : xlate_typed p a b = some (typedP p a b) := by
  unfold xlate_typed xlate_typed_s0 typedP versM
  rw [Version_eq _ h1, Version_eq _ h2, Request_eq _ h1, Request_eq _ h2]
  simp only [Option.bind_some]
  unfold verM
  cases rightM p.1 with
  | false => rfl
  | true =>
    cases rightM p.2.1 with
    | false => simp
    | true =>
      simp only [cond_true, Bool.true_and]
      cases decide (byteAt p.1 0 - 48 = a.2.1) with
      | false => rfl
      | true =>
        cases decide (byteAt p.2.1 0 - 48 = b.2.1) with
        | false => rfl
        | true => rfl
end Groat
set_option linter.unusedVariables false
set_option linter.unusedSimpArgs false
namespace Groat
open Go Go.Ref
abbrev Map := List Pair × List Rule × Unit
structure MapOk (m : Map) : Prop where
  mtis : PairsOk m.1
  len : m.2.1.length ≤ 1000000
  rules : ∀ r ∈ m.2.1, RuleOk r
def mtisC (a b : Schema) : List ByteArray → List Pair → Int → Option (Int × Int)
  | _, [], _ => none
  | seen, p :: r, i => if typedP p a b = true then (if p.1 ∈ seen then some (10, i) else mtisC a b (seen ++ [p.1]) r (i + 1)) else some (7, i)
abbrev Xr := Sum (Int × Int × Int × Map × Schema × Schema) (Map × Schema × Schema)
def mtisR (m : Map) (a b : Schema) (o : Option (Int × Int)) : Option Xr := some (match o with
  | some e => .inl (e.1, 2, e.2, m, a, b)
  | none => .inr (m, a, b))
theorem mtis_run (m : Map) (a b : Schema) : ∀ (l : List Pair) (i : Int) (seen : List ByteArray), (∀ p ∈ l, p.1.size ≤ 1099511627776 ∧ p.2.1.size ≤ 1099511627776) →
    runI (fun i (x : Pair) (s : List Zt3) K => ((xlate_typed x a b).bind fun r2 => (bif (!r2) then some (Sum.inl ((7 : Int), (2 : Int), i, m, a, b)) else (bif mget (eqK .str) false s x.1 then some (Sum.inl ((10 : Int), (2 : Int), i, m, a, b)) else (bif mhas (eqK .str) s x.1 then none else K (s ++ [(x.1, true)])))))) (fun _ => some (Sum.inr (m, a, b))) l i (seenM seen) = mtisR m a b (mtisC a b seen l i)
  | [], i, seen, _ => rfl
  | p :: r, i, seen, h => by
    obtain ⟨h1, h2⟩ := h p List.mem_cons_self
    simp only [runI, mtisC]
    rw [typed_eq p a b (by rw [maxLen_eq]; omega) (by rw [maxLen_eq]; omega), Option.bind_some]
    cases typedP p a b with
    | false => rw [if_neg (by simp)]; rfl
    | true =>
      rw [if_pos rfl]
      simp only [Bool.not_true, cond_false]
      have e1 := mget_seen (eqK .str) (fun _ _ => rfl) p.1 seen
      have e2 := mhas_seen (eqK .str) (fun _ _ => rfl) p.1 seen
      by_cases hm : p.1 ∈ seen
      · rw [e1.2 hm, if_pos hm]; rfl
      · rw [not_true' e1 hm, not_true' e2 hm, if_neg hm, cond_false, cond_false, seenM_append]
        exact mtis_run m a b r (i + 1) (seen ++ [p.1]) fun q hq => h q (List.mem_cons_of_mem _ hq)
theorem mtis_loop (m : Map) (a b : Schema) (h : PairsOk m.1) : xlate_Check_l1 FUEL m.1 (m.1.length : Int) 0 m a b [] = mtisR m a b (mtisC a b [] m.1 0) := by
  have hl := h.len
  have := loopI pair0 m.1 (by rw [maxLen_eq]; omega) (fun i (x : Pair) (s : List Zt3) K => ((xlate_typed x a b).bind fun r2 => (bif (!r2) then some (Sum.inl ((7 : Int), (2 : Int), i, m, a, b)) else (bif mget (eqK .str) false s x.1 then some (Sum.inl ((10 : Int), (2 : Int), i, m, a, b)) else (bif mhas (eqK .str) s x.1 then none else K (s ++ [(x.1, true)])))))) (fun _ => some (Sum.inr (m, a, b)))
    (fun k i s => xlate_Check_l1 k m.1 (m.1.length : Int) i m a b s) (fun k i s => rfl) []
  rw [this]
  exact mtis_run m a b m.1 0 [] h.sz
def twiceR (x y : Rule) : Bool := (!decide (x.2.1 = 0) && decide (x.2.1 = y.2.1)) || (!decide (x.2.2.1 = 0) && decide (x.2.2.1 = y.2.2.1))
def rulesC (a b : Schema) : List Rule → List Rule → Int → Option (Int × Int)
  | _, [], _ => none
  | prev, r :: l, i => if ruleC r a b = 0 then (if prev.any (fun q => twiceR q r) = true then some (10, i) else rulesC a b (prev ++ [r]) l (i + 1)) else some (ruleC r a b, i)
def rulesR (o : Option (Int × Int)) : Option (Sum Zt0 Unit) := some (match o with
  | some e => .inl (e.1, 3, e.2)
  | none => .inr ())
def mapC (m : Map) (a b : Schema) : Int × Int × Int :=
  if (schemaC a).1 = 0 then (if (schemaC b).1 = 0 then (if 256 < m.1.length then (5, 2, 256) else match mtisC a b [] m.1 0 with
    | some e => (e.1, 2, e.2)
    | none => if 256 < m.2.1.length then (5, 3, 256) else match rulesC a b [] m.2.1 0 with
      | some e => (e.1, 3, e.2)
      | none => (0, 0, 0)) else (1, 1, 1)) else (1, 1, 0)
end Groat
set_option linter.unusedVariables false
set_option linter.unusedSimpArgs false
namespace Groat
open Go Go.Ref
theorem setH_snoc (l : List Int) (f : Int) : setH (l ++ [f]) = setH l ||| setH [f] := by simp [setH, List.foldl_append]
theorem setL_snoc (l : List Int) (f : Int) : setL (l ++ [f]) = setL l ||| setL [f] := by simp [setL, List.foldl_append]
theorem both_zero (fs : List Int) (f : Int) : (setH fs &&& setH [f] = 0 ∧ setL fs &&& setL [f] = 0) ↔ ¬ (f ∈ fs ∧ inR f = true) := by
  constructor
  · rintro ⟨h1, h2⟩ ⟨h3, h4⟩
    have := has_and (setH fs) (setL fs) (setH [f]) (setL [f]) f
    rw [h1, h2, hasN_zero, set_has, set_has, h4] at this
    simp [h3] at this
  · intro h
    refine set_ext (and_lt (setH_lt fs)) (and_lt (setL_lt fs)) (by decide) (by decide) fun n _ _ => ?_
    rw [hasN_zero, has_and, set_has, set_has]
    by_cases e : n = f
    · subst e
      cases hr : inR n with
      | false => simp
      | true =>
        have : n ∉ fs := fun hm => h ⟨hm, hr⟩
        simp [this]
    · simp [e]
theorem zero_dec (x y : Nat) : (decide (((x : Nat) : Int) = 0) && (decide (((y : Nat) : Int) = 0) && true)) = decide (x = 0 ∧ y = 0) := by
  rw [Bool.and_true, ← Bool.decide_and]
  exact decide_eq_decide.2 (by omega)
theorem has_range' {s : Schema} (h : Okay s) {no : Int} (hh : hasS s no = true) : inR no = true := by
  unfold hasS findS at hh
  obtain ⟨x, hx⟩ := Option.isSome_iff_exists.1 hh
  have h1 := List.find?_some hx
  have h2 := List.mem_of_find?_eq_some hx
  have h3 := specC_no (h.2.2.2.1 x h2)
  have h4 : x.1 = no := of_decide_eq_true h1
  unfold inR
  exact decide_eq_true (by omega)
theorem rule_ends0 {r : Rule} {a b : Schema} (h : ruleC r a b = 0) : endsE r a b = false := by
  unfold ruleC at h
  cases hc : (decide (r.1 < 1) || decide ((5 : Int) < r.1)) with
  | true => rw [hc] at h; simp at h
  | false =>
    rw [hc] at h
    cases he : endsE r a b with
    | false => rfl
    | true => rw [he] at h; simp at h
theorem rule_inR {r : Rule} {a b : Schema} (ha : Okay a) (hb : Okay b) (h : ruleC r a b = 0) : (r.2.1 ≠ 0 → inR r.2.1 = true) ∧ (r.2.2.1 ≠ 0 → inR r.2.2.1 = true) := by
  have he := rule_ends0 h
  unfold endsE at he
  rw [Bool.or_eq_false_iff] at he
  refine ⟨fun hz => ?_, fun hz => ?_⟩
  · by_cases k : r.1 = 3
    · rw [decide_eq_true k, decide_eq_false hz] at he; simp at he
    · rw [decide_eq_false k] at he
      exact has_range' ha (by simpa using he.1)
  · by_cases k : r.1 = 2
    · rw [decide_eq_true k, decide_eq_false hz] at he; simp at he
    · rw [decide_eq_false k] at he
      exact has_range' hb (by simpa using he.2)
def froms (l : List Rule) : List Int := l.map fun q => q.2.1
def tos (l : List Rule) : List Int := l.map fun q => q.2.2.1
theorem inR_zero : inR 0 = false := by decide
theorem twice_any (prev : List Rule) (r : Rule) (h1 : r.2.1 ≠ 0 → inR r.2.1 = true) (h2 : r.2.2.1 ≠ 0 → inR r.2.2.1 = true) :
    prev.any (fun q => twiceR q r) = (!decide (¬ (r.2.1 ∈ froms prev ∧ inR r.2.1 = true)) || !decide (¬ (r.2.2.1 ∈ tos prev ∧ inR r.2.2.1 = true))) := by
  have e : prev.any (fun q => twiceR q r) = true ↔ ((r.2.1 ∈ froms prev ∧ inR r.2.1 = true) ∨ (r.2.2.1 ∈ tos prev ∧ inR r.2.2.1 = true)) := by
    rw [List.any_eq_true]
    unfold twiceR froms tos
    simp only [List.mem_map]
    constructor
    · rintro ⟨q, hq, h⟩
      simp only [Bool.or_eq_true, Bool.and_eq_true, Bool.not_eq_true', decide_eq_false_iff_not, decide_eq_true_eq] at h
      rcases h with ⟨g1, g2⟩ | ⟨g1, g2⟩
      · exact .inl ⟨⟨q, hq, g2⟩, h1 (by rw [← g2]; exact g1)⟩
      · exact .inr ⟨⟨q, hq, g2⟩, h2 (by rw [← g2]; exact g1)⟩
    · rintro (⟨⟨q, hq, g⟩, hr⟩ | ⟨⟨q, hq, g⟩, hr⟩)
      · refine ⟨q, hq, ?_⟩
        have : q.2.1 ≠ 0 := fun e => by rw [← g, e, inR_zero] at hr; cases hr
        rw [decide_eq_false this, decide_eq_true g]; rfl
      · refine ⟨q, hq, ?_⟩
        have : q.2.2.1 ≠ 0 := fun e => by rw [← g, e, inR_zero] at hr; cases hr
        rw [decide_eq_false this, decide_eq_true g]; simp
  cases hb : prev.any (fun q => twiceR q r) with
  | true =>
    rcases e.1 hb with h | h
    · rw [decide_eq_false (fun hn => hn h)]; rfl
    · rw [show decide (¬ (r.2.2.1 ∈ tos prev ∧ inR r.2.2.1 = true)) = false from decide_eq_false (fun hn => hn h)]; simp
  | false =>
    have hn := fun h => (by rw [hb] at e; exact absurd (e.2 h) (by simp) : False)
    rw [decide_eq_true (show ¬ (r.2.1 ∈ froms prev ∧ inR r.2.1 = true) from fun h => hn (.inl h)), decide_eq_true (show ¬ (r.2.2.1 ∈ tos prev ∧ inR r.2.2.1 = true) from fun h => hn (.inr h))]; rfl
abbrev S2 := Int × Int × Unit
def fsS (l : List Int) : S2 := ((setH l : Int), (setL l : Int), ())
theorem rules_run (a b : Schema) (ha : a.2.2.1.length ≤ maxLen) (hb : b.2.2.1.length ≤ maxLen) (oa : Okay a) (ob : Okay b) : ∀ (l : List Rule) (i : Int) (prev : List Rule), (∀ r ∈ l, RuleOk r) →
    runI (fun i (x : Rule) (s : S2 × S2) K => ((rule_Check x a b).bind fun r3 => (bif (!decide (r3 = 0)) then some (Sum.inl (r3, (3 : Int), i)) else ((fields_Of ([x.2.1] : List Int)).bind fun r4 => ((fields_Of ([x.2.2.1] : List Int)).bind fun r5 => ((fields_Set_Both s.1 r4).bind fun r6 => (bif (!(decide (r6.1 = 0) && (decide (r6.2.1 = 0) && true))) then some (Sum.inl ((10 : Int), (3 : Int), i)) else ((fields_Set_Both s.2 r5).bind fun r7 => (bif (!(decide (r7.1 = 0) && (decide (r7.2.1 = 0) && true))) then some (Sum.inl ((10 : Int), (3 : Int), i)) else ((fields_Set_Either s.1 r4).bind fun r8 => ((fields_Set_Either s.2 r5).bind fun r9 => K (r8, r9)))))))))))) (fun _ => some (Sum.inr ())) l i (fsS (froms prev), fsS (tos prev)) = rulesR (rulesC a b prev l i)
  | [], i, prev, _ => rfl
  | r :: l, i, prev, h => by
    simp only [runI, rulesC]
    rw [ruleCheck_eq r a b (h r List.mem_cons_self) ha hb, Option.bind_some]
    by_cases z : ruleC r a b = 0
    · rw [decide_eq_true z, if_pos z]
      simp only [Bool.not_true, cond_false]
      obtain ⟨i1, i2⟩ := rule_inR oa ob z
      have hany := twice_any prev r i1 i2
      rw [Of_eq _ (by simp [maxLen_eq]), Option.bind_some, Of_eq _ (by simp [maxLen_eq]), Option.bind_some]
      unfold fsS
      rw [Both_eq _ _ _ _ (setH_lt _) (setL_lt _) (setH_lt _) (setL_lt _), Option.bind_some]
      dsimp only
      rw [zero_dec, decide_eq_decide.2 (both_zero (froms prev) r.2.1)]
      by_cases c1 : ¬ (r.2.1 ∈ froms prev ∧ inR r.2.1 = true)
      · rw [decide_eq_true c1] at hany ⊢
        simp only [Bool.not_true, cond_false]
        rw [Both_eq _ _ _ _ (setH_lt _) (setL_lt _) (setH_lt _) (setL_lt _), Option.bind_some]
        dsimp only
        rw [zero_dec, decide_eq_decide.2 (both_zero (tos prev) r.2.2.1)]
        by_cases c2 : ¬ (r.2.2.1 ∈ tos prev ∧ inR r.2.2.1 = true)
        · rw [decide_eq_true c2] at hany ⊢
          rw [hany]
          simp only [Bool.not_true, cond_false, Bool.or_false]
          rw [if_neg (by simp), Either_eq _ _ _ _ (setH_lt _) (setL_lt _) (setH_lt _) (setL_lt _), Option.bind_some, Either_eq _ _ _ _ (setH_lt _) (setL_lt _) (setH_lt _) (setL_lt _), Option.bind_some]
          have := rules_run a b ha hb oa ob l (i + 1) (prev ++ [r]) (fun q hq => h q (List.mem_cons_of_mem _ hq))
          rw [show froms (prev ++ [r]) = froms prev ++ [r.2.1] by simp [froms], show tos (prev ++ [r]) = tos prev ++ [r.2.2.1] by simp [tos]] at this
          unfold fsS at this
          rw [setH_snoc, setL_snoc, setH_snoc, setL_snoc] at this
          exact this
        · rw [decide_eq_false c2] at hany ⊢
          rw [hany]; rfl
      · rw [decide_eq_false c1] at hany ⊢
        rw [hany]; rfl
    · rw [decide_eq_false z, if_neg z]; rfl
theorem schemas_loop (m : Map) (a b : Schema) (ha : a.2.2.1.length ≤ maxLen) (hb : b.2.2.1.length ≤ maxLen) : xlate_Check_l0 FUEL ([a, b] : List Schema) ((List.length ([a, b] : List Schema)) : Int) 0 m a b = some (if (schemaC a).1 = 0 then (if (schemaC b).1 = 0 then .inr (m, a, b) else .inl (1, 1, 1, m, a, b)) else .inl (1, 1, 0, m, a, b)) := by
  obtain ⟨k, hk⟩ := fuel3
  rw [hk]
  simp only [xlate_Check_l0, xlate_Check_s1]
  have w0 : ∀ {R : Type} (x : Option R), within 0 ([a, b] : List Schema).length x = x := fun x => within_int (by omega) (by simp)
  have w1 : ∀ {R : Type} (x : Option R), within 1 ([a, b] : List Schema).length x = x := fun x => within_int (by omega) (by simp)
  have e1 : IntKind.i64.wrap (0 + 1) = 1 := rfl
  have e2 : IntKind.i64.wrap (1 + 1) = 2 := rfl
  have d0 : decide ((0 : Int) < (([a, b] : List Schema).length : Int)) = true := rfl
  have d1 : decide ((1 : Int) < (([a, b] : List Schema).length : Int)) = true := rfl
  have d2 : decide ((2 : Int) < (([a, b] : List Schema).length : Int)) = false := rfl
  rw [d0, cond_true, w0, show List.getD ([a, b] : List Schema) (0 : Int).toNat ((0 : Int), (0 : Int), ([] : List Spec), ()) = a from rfl, Check_eq a ha, Option.bind_some]
  by_cases za : (schemaC a).1 = 0
  · rw [decide_eq_true za, if_pos za]
    simp only [Bool.not_true, cond_false]
    rw [e1, d1, cond_true, w1, show List.getD ([a, b] : List Schema) (1 : Int).toNat ((0 : Int), (0 : Int), ([] : List Spec), ()) = b from rfl, Check_eq b hb, Option.bind_some]
    by_cases zb : (schemaC b).1 = 0
    · rw [decide_eq_true zb, if_pos zb]
      simp only [Bool.not_true, cond_false]
      rw [e2, d2, cond_false]
    · rw [decide_eq_false zb, if_neg zb]; rfl
  · rw [decide_eq_false za, if_neg za]; rfl
abbrev rule0 : Rule := (0, 0, 0, bs [], [], ())
theorem xlateCheck_eq (m : Map) (a b : Schema) (h : MapOk m) (ha : a.2.2.1.length ≤ maxLen) (hb : b.2.2.1.length ≤ maxLen) : xlate_Check m a b = some (mapC m a b) := by
  have h1 := h.mtis.len
  have h2 := h.len
  unfold xlate_Check xlate_Check_s0 mapC
  dsimp only
  rw [schemas_loop m a b ha hb, Option.bind_some]
  by_cases za : (schemaC a).1 = 0
  · rw [if_pos za, if_pos za]
    by_cases zb : (schemaC b).1 = 0
    · rw [if_pos zb, if_pos zb]
      simp only [Sum.elim_inr]
      unfold xlate_Check_s3
      by_cases hm : 256 < m.1.length
      · rw [decide_eq_true (by omega), if_pos hm]; rfl
      · rw [decide_eq_false (by omega), if_neg hm, cond_false]
        dsimp only
        rw [mtis_loop m a b h.mtis]
        unfold mtisR
        cases mtisC a b [] m.1 0 with
        | some e => rfl
        | none =>
          simp only [Option.bind_some, Sum.elim_inr]
          unfold xlate_Check_s6
          by_cases hr : 256 < m.2.1.length
          · rw [decide_eq_true (by omega), if_pos hr]; rfl
          · rw [decide_eq_false (by omega), if_neg hr, cond_false]
            dsimp only
            have := loopI rule0 m.2.1 (by rw [maxLen_eq]; omega) (fun i (x : Rule) (s : S2 × S2) K => ((rule_Check x a b).bind fun r3 => (bif (!decide (r3 = 0)) then some (Sum.inl (r3, (3 : Int), i)) else ((fields_Of ([x.2.1] : List Int)).bind fun r4 => ((fields_Of ([x.2.2.1] : List Int)).bind fun r5 => ((fields_Set_Both s.1 r4).bind fun r6 => (bif (!(decide (r6.1 = 0) && (decide (r6.2.1 = 0) && true))) then some (Sum.inl ((10 : Int), (3 : Int), i)) else ((fields_Set_Both s.2 r5).bind fun r7 => (bif (!(decide (r7.1 = 0) && (decide (r7.2.1 = 0) && true))) then some (Sum.inl ((10 : Int), (3 : Int), i)) else ((fields_Set_Either s.1 r4).bind fun r8 => ((fields_Set_Either s.2 r5).bind fun r9 => K (r8, r9)))))))))))) (fun _ => some (Sum.inr ()))
              (fun k i s => xlate_Check_l2 k m.2.1 (m.2.1.length : Int) i a b s.1 s.2) (fun k i s => rfl) (fsS (froms []), fsS (tos []))
            have h3 := rules_run a b ha hb ((schemaC_ok a).1 za) ((schemaC_ok b).1 zb) m.2.1 0 [] h.rules
            rw [h3] at this
            have h4 : fsS (froms []) = ((0 : Int), (0 : Int), ()) := rfl
            have h5 : fsS (tos []) = ((0 : Int), (0 : Int), ()) := rfl
            rw [h4, h5] at this
            rw [this]
            unfold rulesR
            cases rulesC a b [] m.2.1 0 <;> rfl
    · rw [if_neg zb, if_neg zb]; rfl
  · rw [if_neg za, if_neg za]; rfl
end Groat
set_option linter.unusedVariables false
set_option linter.unusedSimpArgs false
namespace Groat
open Go Go.Ref
instance ruleDec : DecidableEq Rule := fun x y => decidable_of_iff ((decide (x.1 = y.1) && (decide (x.2.1 = y.2.1) && (decide (x.2.2.1 = y.2.2.1) && (decide (x.2.2.2.1 = y.2.2.2.1) && decide (x.2.2.2.2.1 = y.2.2.2.2.1))))) = true) (by obtain ⟨a1, a2, a3, a4, a5, u⟩ := x; obtain ⟨b1, b2, b3, b4, b5, v⟩ := y; simp)
instance mapDec : DecidableEq Map := fun x y => decidable_of_iff ((decide (x.1 = y.1) && decide (x.2.1 = y.2.1)) = true) (by obtain ⟨a1, a2, u⟩ := x; obtain ⟨b1, b2, v⟩ := y; simp)
def turnR (r : Rule) : Rule := (r.1, r.2.2.1, r.2.1, r.2.2.2.1, turnP r.2.2.2.2.1, ())
def turnM (m : Map) : Map := (turnP m.1, m.2.1.map turnR, ())
abbrev map0 : Map := ([], [], ())
theorem turnM_run (f : List Pair → Option (List Pair)) (hf : ∀ l, l.length ≤ 1000000 → f l = some (turnP l)) : ∀ (l : List Rule) (i : Int) (s : Map × Map), (∀ r ∈ l, r.2.2.2.2.1.length ≤ 1000000) → s.2.2.1.length + l.length ≤ 1099511627776 →
    runI (fun i (x : Rule) (s : Map × Map) K => ((f x.2.2.2.2.1).bind fun r2 => (bif (decide ((s.2.2.1.length + (List.length ([(x.1, x.2.2.1, x.2.1, x.2.2.2.1, r2, ())] : List Rule))) * 64 ≤ 140737488355328)) then K (s.1, (s.2.1, (s.2.2.1 ++ ([(x.1, x.2.2.1, x.2.1, x.2.2.2.1, r2, ())] : List Rule)), ())) else none))) (fun s => some s) l i s = some (s.1, (s.2.1, s.2.2.1 ++ l.map turnR, ()))
  | [], i, s, _, _ => by simp only [runI, List.map_nil, List.append_nil]
  | r :: l, i, s, h, hl => by
    simp only [List.length_cons] at hl
    simp only [runI]
    rw [hf _ (h r List.mem_cons_self), Option.bind_some, decide_eq_true (by simp; omega), cond_true]
    have := turnM_run f hf l (i + 1) (s.1, (s.2.1, (s.2.2.1 ++ [turnR r]), ())) (fun q hq => h q (List.mem_cons_of_mem _ hq)) (by simp; omega)
    refine Eq.trans this ?_
    simp
theorem Turn_eq (m : Map) (h : MapOk m) : invert_Turn m = some (turnM m) := by
  have hl := h.len
  unfold invert_Turn invert_Turn_s0
  dsimp only
  rw [codesTurn_eq _ h.mtis.len, Option.bind_some]
  have := loopI rule0 m.2.1 (by rw [maxLen_eq]; omega) (fun i (x : Rule) (s : Map × Map) K => ((codes_Turn x.2.2.2.2.1).bind fun r2 => (bif (decide ((s.2.2.1.length + (List.length ([(x.1, x.2.2.1, x.2.1, x.2.2.2.1, r2, ())] : List Rule))) * 64 ≤ 140737488355328)) then K (s.1, (s.2.1, (s.2.2.1 ++ ([(x.1, x.2.2.1, x.2.1, x.2.2.2.1, r2, ())] : List Rule)), ())) else none))) (fun s => some s)
    (fun k i s => invert_Turn_l0 k m.2.1 (m.2.1.length : Int) i s.1 s.2) (fun k i s => rfl) (map0, (turnP m.1, [], ()))
  rw [turnM_run codes_Turn codesTurn_eq _ _ _ (fun r hr => (h.rules r hr).pairs.len) (by simp; omega)] at this
  rw [this]
  rfl
def undoneR (r : Rule) (a b : Schema) : Bool :=
  bif decide (r.1 = 1) then (widS (getS a r.2.1) (getS b r.2.2.1) && widS (getS b r.2.2.1) (getS a r.2.1)) else bif decide (r.1 = 4) then decide ((getS a r.2.1).2.2.2.1 ≤ (getS b r.2.2.1).2.2.2.1) else bif decide (r.1 = 5) then bij r.2.2.2.2.1 else false
def invC (m : Map) (a b : Schema) : Bool := decide ((mapC m a b).1 = 0) && (bij m.1 && m.2.1.all fun r => undoneR r a b)
theorem undone_eq (r : Rule) (a b : Schema) (h : RuleOk r) (ha : a.2.2.1.length ≤ maxLen) (hb : b.2.2.1.length ≤ maxLen) : invert_undone r a b = some (undoneR r a b) := by
  unfold invert_undone invert_undone_s0 undoneR
  rw [Find_eq2 a _ ha, Option.bind_some, Find_eq2 b _ hb, Option.bind_some, Wider_eq', Option.bind_some, Wider_eq', Option.bind_some, codesBij_eq _ h.pairs.len, Option.bind_some]
  generalize decide (r.1 = 1) = c1
  generalize decide (r.1 = 4) = c2
  generalize decide (r.1 = 5) = c3
  generalize widS (getS a r.2.1) (getS b r.2.2.1) = w1
  cases c1 <;> cases c2 <;> cases c3 <;> cases w1 <;> rfl
def allR (t : Bool) : Option (Sum Bool Unit) := some (bif t then .inr () else .inl false)
theorem undone_run (a b : Schema) (ha : a.2.2.1.length ≤ maxLen) (hb : b.2.2.1.length ≤ maxLen) : ∀ (l : List Rule) (i : Int), (∀ r ∈ l, RuleOk r) →
    runI (fun i (x : Rule) (s : Unit) K => ((invert_undone x a b).bind fun r3 => (bif (!r3) then some (Sum.inl false) else K s))) (fun _ => some (Sum.inr ())) l i () = allR (l.all fun r => undoneR r a b)
  | [], i, _ => rfl
  | r :: l, i, h => by
    simp only [runI, List.all_cons]
    rw [undone_eq r a b (h r List.mem_cons_self) ha hb, Option.bind_some]
    cases undoneR r a b with
    | false => rfl
    | true => exact undone_run a b ha hb l (i + 1) fun q hq => h q (List.mem_cons_of_mem _ hq)
theorem invCheck_eq (m : Map) (a b : Schema) (h : MapOk m) (ha : a.2.2.1.length ≤ maxLen) (hb : b.2.2.1.length ≤ maxLen) : invert_Check m a b = some (invC m a b) := by
  have hl := h.len
  unfold invert_Check invert_Check_s0 invC
  rw [xlateCheck_eq m a b h ha hb, Option.bind_some]
  cases decide ((mapC m a b).1 = 0) with
  | false => rfl
  | true =>
    simp only [Bool.not_true, cond_false, Bool.true_and]
    rw [codesBij_eq _ h.mtis.len, Option.bind_some]
    cases bij m.1 with
    | false => rfl
    | true =>
      simp only [Bool.not_true, cond_false, Bool.true_and]
      have := loopI rule0 m.2.1 (by rw [maxLen_eq]; omega) (fun i (x : Rule) (s : Unit) K => ((invert_undone x a b).bind fun r3 => (bif (!r3) then some (Sum.inl false) else K s))) (fun _ => some (Sum.inr ()))
        (fun k i s => invert_Check_l0 k m.2.1 (m.2.1.length : Int) i a b) (fun k i s => rfl) ()
      rw [this, undone_run a b ha hb _ 0 h.rules]
      unfold allR
      cases (m.2.1.all fun r => undoneR r a b) <;> rfl
end Groat
set_option linter.unusedVariables false
set_option linter.unusedSimpArgs false
namespace Groat
open Go Go.Ref
structure Rule0 (r : Rule) (a b : Schema) : Prop where
  lo : ¬ r.1 < 1
  hi : ¬ (5 : Int) < r.1
  ends : endsE r a b = false
  text : textE r = false
  kind : kindC r (getS a r.2.1) (getS b r.2.2.1) = 0
theorem rule0_iff {r : Rule} {a b : Schema} : ruleC r a b = 0 ↔ Rule0 r a b := by
  constructor
  · intro h
    unfold ruleC at h
    by_cases c1 : r.1 < 1
    · rw [decide_eq_true c1] at h; simp at h
    by_cases c2 : (5 : Int) < r.1
    · rw [decide_eq_true c2] at h; simp at h
    rw [decide_eq_false c1, decide_eq_false c2] at h
    simp only [Bool.or_self, cond_false] at h
    cases he : endsE r a b with
    | true => rw [he] at h; simp at h
    | false =>
      rw [he, cond_false] at h
      cases ht : textE r with
      | true => rw [ht] at h; simp at h
      | false => rw [ht, cond_false] at h; exact ⟨c1, c2, he, ht, h⟩
  · intro h
    unfold ruleC
    rw [decide_eq_false h.lo, decide_eq_false h.hi, h.ends, h.text]
    exact h.kind
theorem Rule0.hasA {r : Rule} {a b : Schema} (h : Rule0 r a b) (k : r.1 ≠ 3) : hasS a r.2.1 = true := by
  have he := h.ends
  unfold endsE at he
  rw [Bool.or_eq_false_iff, decide_eq_false k] at he
  simpa using he.1
theorem Rule0.hasB {r : Rule} {a b : Schema} (h : Rule0 r a b) (k : r.1 ≠ 2) : hasS b r.2.2.1 = true := by
  have he := h.ends
  unfold endsE at he
  rw [Bool.or_eq_false_iff, decide_eq_false k] at he
  simpa using he.2
theorem mtisC_none {a b : Schema} : ∀ {l : List Pair} {seen : List ByteArray} {i : Int}, mtisC a b seen l i = none ↔ (∀ p ∈ l, typedP p a b = true) ∧ dupP seen l i = none
  | [], seen, i => by simp [mtisC, dupP]
  | p :: r, seen, i => by
    simp only [mtisC, dupP, List.mem_cons, forall_eq_or_imp]
    cases ht : typedP p a b with
    | false => simp
    | true =>
      rw [if_pos rfl]
      by_cases hm : p.1 ∈ seen
      · simp [hm]
      · rw [if_neg hm, if_neg hm, mtisC_none]
        simp
def NoTwice : List Rule → List Rule → Prop
  | _, [] => True
  | prev, r :: l => prev.any (fun q => twiceR q r) = false ∧ NoTwice (prev ++ [r]) l
theorem rulesC_none {a b : Schema} : ∀ {l : List Rule} {prev : List Rule} {i : Int}, rulesC a b prev l i = none ↔ (∀ r ∈ l, ruleC r a b = 0) ∧ NoTwice prev l
  | [], prev, i => by simp [rulesC, NoTwice]
  | r :: l, prev, i => by
    simp only [rulesC, NoTwice, List.mem_cons, forall_eq_or_imp]
    by_cases z : ruleC r a b = 0
    · rw [if_pos z]
      cases hp : prev.any (fun q => twiceR q r) with
      | true => simp
      | false =>
        rw [if_neg (by simp), rulesC_none]
        simp [z]
    · rw [if_neg z]; simp [z]
theorem mtisC_some {a b : Schema} : ∀ {l : List Pair} {seen : List ByteArray} {i : Int} {e : Int × Int}, mtisC a b seen l i = some e → e.1 ≠ 0
  | p :: r, seen, i, e, h => by
    simp only [mtisC] at h
    split at h
    · split at h
      · cases h; simp
      · exact mtisC_some h
    · cases h; simp
theorem rulesC_some {a b : Schema} : ∀ {l : List Rule} {prev : List Rule} {i : Int} {e : Int × Int}, rulesC a b prev l i = some e → e.1 ≠ 0
  | r :: l, prev, i, e, h => by
    simp only [rulesC] at h
    split at h
    · split at h
      · cases h; simp
      · exact rulesC_some h
    · rename_i hz
      cases h; exact hz
structure Map0 (m : Map) (a b : Schema) : Prop where
  sa : (schemaC a).1 = 0
  sb : (schemaC b).1 = 0
  len1 : m.1.length ≤ 256
  typed : ∀ p ∈ m.1, typedP p a b = true
  dup : dupP [] m.1 0 = none
  len2 : m.2.1.length ≤ 256
  rules : ∀ r ∈ m.2.1, ruleC r a b = 0
  twice : NoTwice [] m.2.1
theorem map0_iff {m : Map} {a b : Schema} : (mapC m a b).1 = 0 ↔ Map0 m a b := by
  constructor
  · intro h
    unfold mapC at h
    split at h
    · split at h
      · rename_i h1 h2
        split at h
        · cases h
        · rename_i h3
          split at h
          · rename_i e he
            exact absurd h (mtisC_some he)
          · rename_i hm
            split at h
            · cases h
            · rename_i h4
              split at h
              · rename_i e he
                exact absurd h (rulesC_some he)
              · rename_i hr
                obtain ⟨g1, g2⟩ := mtisC_none.1 hm
                obtain ⟨g3, g4⟩ := rulesC_none.1 hr
                exact ⟨h1, h2, by omega, g1, g2, by omega, g3, g4⟩
      · cases h
    · cases h
  · intro h
    unfold mapC
    have e1 := mtisC_none.2 ⟨h.typed, h.dup⟩
    have e2 : rulesC a b [] m.2.1 0 = none := rulesC_none.2 ⟨h.rules, h.twice⟩
    have l1 := h.len1
    have l2 := h.len2
    rw [if_pos h.sa, if_pos h.sb, if_neg (by omega), e1]
    simp only
    rw [if_neg (by omega), e2]
theorem Map0.eq {m : Map} {a b : Schema} (h : Map0 m a b) : mapC m a b = (0, 0, 0) := by
  unfold mapC
  have e1 := mtisC_none.2 ⟨h.typed, h.dup⟩
  have e2 : rulesC a b [] m.2.1 0 = none := rulesC_none.2 ⟨h.rules, h.twice⟩
  have l1 := h.len1
  have l2 := h.len2
  rw [if_pos h.sa, if_pos h.sb, if_neg (by omega), e1]
  simp only
  rw [if_neg (by omega), e2]
theorem PairsOk.turn {l : List Pair} (h : PairsOk l) : PairsOk (turnP l) := ⟨by rw [turnP_len]; exact h.len, fun p hp => by
  unfold turnP at hp
  obtain ⟨q, hq, rfl⟩ := List.mem_map.1 hp
  exact ⟨(h.sz q hq).2, (h.sz q hq).1⟩⟩
theorem MapOk.turn {m : Map} (h : MapOk m) : MapOk (turnM m) := ⟨h.mtis.turn, by show (m.2.1.map turnR).length ≤ _; rw [List.length_map]; exact h.len, fun r hr => by
  obtain ⟨q, hq, rfl⟩ := List.mem_map.1 (show r ∈ m.2.1.map turnR from hr)
  exact ⟨(h.rules q hq).text, (h.rules q hq).pairs.turn⟩⟩
theorem typed_turn (p : Pair) (a b : Schema) (h : typedP p a b = true) : typedP (p.2.1, p.1, ()) b a = true := by
  unfold typedP at h ⊢
  simp only [Bool.and_eq_true, beq_iff_eq] at h ⊢
  exact ⟨h.2.1, h.1, h.2.2.symm⟩
theorem twice_turn (x y : Rule) : twiceR (turnR x) (turnR y) = twiceR x y := by
  unfold twiceR turnR
  exact Bool.or_comm _ _
theorem noTwice_turn : ∀ (l prev : List Rule), NoTwice prev l → NoTwice (prev.map turnR) (l.map turnR)
  | [], _, _ => trivial
  | r :: l, prev, ⟨h1, h2⟩ => by
    refine ⟨?_, ?_⟩
    · rw [List.any_map]
      rw [← h1]
      congr 1
      funext q
      exact twice_turn q r
    · have := noTwice_turn l (prev ++ [r]) h2
      rw [List.map_append] at this
      exact this
theorem tableC_dup {l : List Pair} (h : (tableC l).1 = 0) : l.length ≤ 256 ∧ dupP [] l 0 = none := by
  unfold tableC at h
  split at h
  · cases h
  · rename_i h1
    split at h
    · cases h
    · rename_i h2; exact ⟨by omega, h2⟩
theorem bij_iff {l : List Pair} : bij l = true ↔ (tableC l).1 = 0 ∧ (tableC (turnP l)).1 = 0 := by unfold bij; exact decide_eq_true_iff
theorem valsC_zero {x y : Spec} : ∀ {l : List Pair}, valsC l x y = 0 ↔ ∀ p ∈ l, valC x p.1 = 0 ∧ valC y p.2.1 = 0
  | [] => by simp [valsC]
  | p :: r => by
    simp only [valsC, List.mem_cons, forall_eq_or_imp]
    by_cases h1 : valC x p.1 = 0
    · rw [decide_eq_true h1]
      simp only [Bool.not_true, cond_false]
      by_cases h2 : valC y p.2.1 = 0
      · rw [decide_eq_true h2]
        simp only [Bool.not_true, cond_false]
        rw [valsC_zero]
        simp [h1, h2]
      · rw [decide_eq_false h2]
        simp [h1, h2]
    · rw [decide_eq_false h1]
      simp [h1]
theorem rule_turn {r : Rule} {a b : Schema} (h : Rule0 r a b) (hu : undoneR r a b = true) : Rule0 (turnR r) b a := by
  have hk : r.1 = 1 ∨ r.1 = 4 ∨ r.1 = 5 := by
    unfold undoneR at hu
    by_cases k1 : r.1 = 1
    · exact .inl k1
    by_cases k4 : r.1 = 4
    · exact .inr (.inl k4)
    by_cases k5 : r.1 = 5
    · exact .inr (.inr k5)
    rw [decide_eq_false k1, decide_eq_false k4, decide_eq_false k5] at hu
    cases hu
  have e1 : (turnR r).1 = r.1 := rfl
  have e2 : (turnR r).2.1 = r.2.2.1 := rfl
  have e3 : (turnR r).2.2.1 = r.2.1 := rfl
  have e4 : (turnR r).2.2.2.1 = r.2.2.2.1 := rfl
  have e5 : (turnR r).2.2.2.2.1 = turnP r.2.2.2.2.1 := rfl
  refine ⟨h.lo, h.hi, ?_, ?_, ?_⟩
  · unfold endsE
    rw [e1, e2, e3, decide_eq_false (by omega : ¬ r.1 = 3), decide_eq_false (by omega : ¬ r.1 = 2), h.hasA (by omega), h.hasB (by omega)]
    rfl
  · have ht := h.text
    unfold textE at ht ⊢
    rw [e1, e4, e5, turnP_len]
    exact ht
  · have hkd := h.kind
    unfold kindC at hkd ⊢
    unfold undoneR at hu
    rw [e1, e2, e3, e4, e5]
    rcases hk with k | k | k
    · rw [decide_eq_true k, cond_true] at hu ⊢
      rw [Bool.and_eq_true] at hu
      rw [hu.1]; rfl
    · rw [decide_eq_false (by omega : ¬ r.1 = 1), decide_eq_false (by omega : ¬ r.1 = 3), decide_eq_true k] at hkd ⊢
      simp only [cond_false, cond_true] at hkd ⊢
      rw [Bool.and_comm]
      exact hkd
    · rw [decide_eq_false (by omega : ¬ r.1 = 1), decide_eq_false (by omega : ¬ r.1 = 3), decide_eq_false (by omega : ¬ r.1 = 4), decide_eq_true k] at hkd ⊢
      rw [decide_eq_false (by omega : ¬ r.1 = 1), decide_eq_false (by omega : ¬ r.1 = 4), decide_eq_true k] at hu
      simp only [cond_false, cond_true] at hkd hu ⊢
      have hb := bij_iff.1 hu
      unfold tableR at hkd ⊢
      rw [turnP_len, hb.2]
      rw [hb.1] at hkd
      cases hz : decide ((r.2.2.2.2.1.length : Int) = 0) with
      | true => rw [hz] at hkd; simp at hkd
      | false =>
        rw [hz] at hkd
        simp only [decide_true, Bool.not_true, Bool.or_self, cond_false] at hkd ⊢
        rw [valsC_zero] at hkd ⊢
        intro p hp
        unfold turnP at hp
        obtain ⟨q, hq, rfl⟩ := List.mem_map.1 hp
        exact ⟨(hkd q hq).2, (hkd q hq).1⟩
theorem map_turn {m : Map} {a b : Schema} (h : invC m a b = true) : Map0 (turnM m) b a := by
  unfold invC at h
  simp only [Bool.and_eq_true, decide_eq_true_eq, List.all_eq_true] at h
  obtain ⟨h1, h2, h3⟩ := h
  have h0 := map0_iff.1 h1
  have hb := bij_iff.1 h2
  obtain ⟨l1, d1⟩ := tableC_dup hb.2
  refine ⟨h0.sb, h0.sa, l1, fun p hp => ?_, d1, by show (m.2.1.map turnR).length ≤ _; rw [List.length_map]; exact h0.len2, fun r hr => ?_, ?_⟩
  · obtain ⟨q, hq, rfl⟩ := List.mem_map.1 (show p ∈ m.1.map _ from hp)
    exact typed_turn q a b (h0.typed q hq)
  · obtain ⟨q, hq, rfl⟩ := List.mem_map.1 (show r ∈ m.2.1.map turnR from hr)
    exact rule0_iff.2 (rule_turn (rule0_iff.1 (h0.rules q hq)) (h3 q hq))
  · exact noTwice_turn m.2.1 [] h0.twice
end Groat
set_option linter.unusedVariables false
set_option linter.unusedSimpArgs false
namespace Groat
open Go Go.Ref
end Groat
set_option linter.unusedVariables false
set_option linter.unusedSimpArgs false
namespace Groat
open Go Go.Ref
end Groat
set_option linter.unusedVariables false
set_option linter.unusedSimpArgs false
namespace Groat
open Go Go.Ref
theorem awake22 : w22_awake = some true := by kernel_rfl
end Groat
set_option linter.unusedVariables false
set_option linter.unusedSimpArgs false
namespace Groat
open Go Go.Ref
abbrev Msg := ByteArray × List Val × Unit
abbrev Fault := Int × Int × Unit
abbrev vnil : Val := (0, bs [], ())
abbrev fault0 : Fault := (0, 0, ())
structure MsgOk (m : Msg) : Prop where
  mti : m.1.size ≤ 9223372036854775807
  len : m.2.1.length ≤ 1000000
  txt : ∀ v ∈ m.2.1, v.2.1.size ≤ 1099511627776
def dropV (l : List Val) (no : Int) : List Val := l.filter fun v => !decide (v.1 = no)
theorem dropV_len (l : List Val) (no : Int) : (dropV l no).length ≤ l.length := List.length_filter_le _ _
theorem without_run (no : Int) (fin : Msg × Msg → Option (Msg × Msg)) : ∀ (l : List Val) (i : Int) (s : Msg × Msg), s.2.2.1.length + l.length ≤ 1000000000 →
    runI (fun i (x : Val) (s : Msg × Msg) K => (bif (!(decide (x.1 = no))) then (bif (decide ((s.2.2.1.length + (List.length ([x] : List Val))) * 24 ≤ 140737488355328)) then K (s.1, (s.2.1, (s.2.2.1 ++ ([x] : List Val)), ())) else none) else K s)) fin l i s = fin (s.1, (s.2.1, s.2.2.1 ++ dropV l no, ()))
  | [], i, s, _ => by
    show fin s = _
    simp [dropV]
  | x :: r, i, s, h => by
    simp only [List.length_cons] at h
    rw [runI]
    by_cases hx : x.1 = no
    · rw [decide_eq_true hx, Bool.not_true, cond_false]
      refine (without_run no fin r (i + 1) s (by omega)).trans ?_
      simp [dropV, hx]
    · rw [decide_eq_false hx, Bool.not_false, cond_true, decide_eq_true (by simp only [List.length_singleton]; omega), cond_true]
      refine (without_run no fin r (i + 1) (s.1, (s.2.1, s.2.2.1 ++ [x], ())) (by simp only [List.length_append, List.length_singleton]; omega)).trans ?_
      simp [dropV, hx]
theorem MWithout_eq (m : Msg) (no : Int) (h : m.2.1.length ≤ 1000000) : msg_Without m no = some (m.1, dropV m.2.1 no, ()) := by
  unfold msg_Without msg_Without_s0
  dsimp only
  have := loopI vnil m.2.1 (by rw [maxLen_eq]; omega) (fun i (x : Val) (s : Msg × Msg) K => (bif (!(decide (x.1 = no))) then (bif (decide ((s.2.2.1.length + (List.length ([x] : List Val))) * 24 ≤ 140737488355328)) then K (s.1, (s.2.1, (s.2.2.1 ++ ([x] : List Val)), ())) else none) else K s)) (fun s => some s)
    (fun k i s => msg_Without_l0 k no m.2.1 (m.2.1.length : Int) i s.1 s.2) (fun k i s => rfl) ((bs [], [], ()), (m.1, [], ()))
  rw [this, without_run no _ _ _ _ (by simp; omega)]
  rfl
def idxGt (no : Int) : List Val → Int → Int
  | [], _ => -1
  | x :: r, i => if no < x.1 then i else idxGt no r (i + 1)
theorem idxGt_cases (no : Int) : ∀ (l : List Val) (i : Int), 0 ≤ i → (idxGt no l i = -1 ∧ ∀ x ∈ l, x.1 ≤ no) ∨ (i ≤ idxGt no l i ∧ idxGt no l i < i + l.length)
  | [], i, h => .inl ⟨rfl, fun x hx => by cases hx⟩
  | x :: r, i, h => by
    unfold idxGt
    by_cases hx : no < x.1
    · rw [if_pos hx]; right; simp only [List.length_cons]; omega
    · rw [if_neg hx]
      rcases idxGt_cases no r (i + 1) (by omega) with ⟨h1, h2⟩ | h1
      · left
        refine ⟨h1, fun y hy => ?_⟩
        rcases List.mem_cons.1 hy with rfl | hy
        · omega
        · exact h2 y hy
      · right; simp only [List.length_cons]; omega
def exV (r no : Int) : Sum (Int × Int) Int := bif decide (r < 0) then .inr no else .inl (r, no)
theorem index_run (no : Int) : ∀ (l : List Val) (i : Int), 0 ≤ i → runI (fun i (x : Val) (s : Int) K => ((msg_With_1 x s).bind fun r1 => (bif r1.1 then some (Sum.inl (i, r1.2)) else K r1.2))) (fun s => some (Sum.inr s)) l i no = some (exV (idxGt no l i) no)
  | [], i, h => rfl
  | x :: r, i, h => by
    rw [runI, idxGt]
    show (bif decide (no < x.1) then some (Sum.inl (i, no)) else runI _ _ r (i + 1) no) = _
    by_cases hx : no < x.1
    · rw [decide_eq_true hx, cond_true, if_pos hx]
      unfold exV
      rw [decide_eq_false (by omega)]; rfl
    · rw [decide_eq_false hx, cond_false, if_neg hx]
      exact index_run no r (i + 1) (by omega)
theorem IndexGt_eq (l : List Val) (no : Int) (h : l.length ≤ 1000000) : slices_IndexFunc_api_Value_api_Value_at_msg_With_1 l no = some (idxGt no l 0, no) := by
  unfold slices_IndexFunc_api_Value_api_Value_at_msg_With_1 slices_IndexFunc_api_Value_api_Value_at_msg_With_1_s0
  dsimp only
  have := loopI vnil l (by rw [maxLen_eq]; omega) (fun i (x : Val) (s : Int) K => ((msg_With_1 x s).bind fun r1 => (bif r1.1 then some (Sum.inl (i, r1.2)) else K r1.2))) (fun s => some (Sum.inr s))
    (fun k i s => slices_IndexFunc_api_Value_api_Value_at_msg_With_1_l0 k l (l.length : Int) i s) (fun k i s => rfl) no
  rw [this, index_run no l 0 (Int.le_refl _), some_bind]
  unfold exV
  rcases idxGt_cases no l 0 (Int.le_refl _) with ⟨h1, _⟩ | h1
  · rw [h1]; rfl
  · rw [decide_eq_false (by omega)]; rfl
theorem putL_zero (old : List Val) (at_ : Nat) (v d : Val) (h : at_ ≤ old.length) :
    putL (List.set (putL (List.replicate (old.length + 1) d) (List.take (old.length + 1) (List.drop 0 (List.take at_ old))) 0) at_ v) (List.take (old.length + 1 - (at_ + 1)) (List.drop at_ (List.take old.length old))) (at_ + 1) = old.take at_ ++ v :: old.drop at_ := by
  have e1 : List.take (old.length + 1) (List.drop 0 (List.take at_ old)) = old.take at_ := by
    rw [List.drop_zero, List.take_take, Nat.min_eq_right (by omega)]
  have e2 : List.take (old.length + 1 - (at_ + 1)) (List.drop at_ (List.take old.length old)) = old.drop at_ := by
    rw [List.take_length, List.take_of_length_le (by rw [List.length_drop]; omega)]
  rw [e1, e2]
  have hl : (old.take at_).length = at_ := by rw [List.length_take]; omega
  have e3 : putL (List.replicate (old.length + 1) d) (old.take at_) 0 = old.take at_ ++ List.replicate (old.length + 1 - at_) d := by
    unfold putL
    rw [List.take_zero, List.nil_append, hl, Nat.zero_add, List.drop_replicate]
  obtain ⟨n, hn⟩ : ∃ n, old.length + 1 - at_ = n + 1 := ⟨old.length - at_, by omega⟩
  have e4 : List.set (old.take at_ ++ List.replicate (old.length + 1 - at_) d) at_ v = old.take at_ ++ v :: List.replicate n d := by
    rw [hn, List.replicate_succ, List.set_append, if_neg (by omega), hl, Nat.sub_self, List.set_cons_zero]
  rw [e3, e4]
  unfold putL
  have e5 : (old.take at_ ++ v :: List.replicate n d).take (at_ + 1) = old.take at_ ++ [v] := by
    rw [List.take_append, hl, show at_ + 1 - at_ = 1 by omega, List.take_of_length_le (by omega)]; rfl
  have e6 : (old.take at_ ++ v :: List.replicate n d).drop (at_ + 1 + (old.drop at_).length) = [] := by
    apply List.drop_eq_nil_of_le
    rw [List.length_append, hl, List.length_cons, List.length_replicate, List.length_drop]
    omega
  rw [e5, e6, List.append_nil, List.append_assoc]
  rfl
theorem with_tail (q t : ByteArray) (no : Int) (old : List Val) (at_ : Nat) (h : at_ ≤ old.length) (hl : old.length ≤ 1000000) :
    (bif (decide ((IntKind.i64.wrap (((List.length old) : Int) + (1 : Int))) = (IntKind.i64.wrap (((List.length old) : Int) + (1 : Int))))) then (bif (decide ((0 : Int) ≤ (IntKind.i64.wrap (((List.length old) : Int) + (1 : Int))))) then (bif (decide ((IntKind.i64.wrap (((List.length old) : Int) + (1 : Int))) * 24 ≤ 140737488355328)) then (bif (decide ((0 : Int) ≤ ((at_ : Nat) : Int))) then (bif (decide (((at_ : Nat) : Int) ≤ (((List.length old) : Nat) : Int))) then (bif (Nat.beq ((IntKind.i64.wrap (((List.length old) : Int) + (1 : Int)))).toNat (List.length (List.replicate ((IntKind.i64.wrap (((List.length old) : Int) + (1 : Int)))).toNat ((0 : Int), (bs []), ())))) then (within ((at_ : Nat) : Int) ((IntKind.i64.wrap (((List.length old) : Int) + (1 : Int)))).toNat (bif (Nat.ble ((((at_ : Nat) : Int)).toNat + 1) (List.length (putL (List.replicate ((IntKind.i64.wrap (((List.length old) : Int) + (1 : Int)))).toNat ((0 : Int), (bs []), ())) (List.take ((IntKind.i64.wrap (((List.length old) : Int) + (1 : Int)))).toNat (List.drop 0 (List.take (((at_ : Nat) : Int)).toNat old))) 0))) then (bif (decide ((0 : Int) ≤ (IntKind.i64.wrap (((at_ : Nat) : Int) + (1 : Int))))) then (bif (decide ((IntKind.i64.wrap (((at_ : Nat) : Int) + (1 : Int))) ≤ ((((IntKind.i64.wrap (((List.length old) : Int) + (1 : Int)))).toNat : Nat) : Int))) then (bif (decide ((0 : Int) ≤ ((at_ : Nat) : Int))) then (bif (decide (((at_ : Nat) : Int) ≤ (((List.length old) : Nat) : Int))) then (bif (Nat.beq ((IntKind.i64.wrap (((List.length old) : Int) + (1 : Int)))).toNat (List.length (List.set (putL (List.replicate ((IntKind.i64.wrap (((List.length old) : Int) + (1 : Int)))).toNat ((0 : Int), (bs []), ())) (List.take ((IntKind.i64.wrap (((List.length old) : Int) + (1 : Int)))).toNat (List.drop 0 (List.take (((at_ : Nat) : Int)).toNat old))) 0) (((at_ : Nat) : Int)).toNat (no, t, ())))) then (bif (Nat.ble ((IntKind.i64.wrap (((at_ : Nat) : Int) + (1 : Int)))).toNat ((IntKind.i64.wrap (((List.length old) : Int) + (1 : Int)))).toNat) then (bif (Nat.beq ((IntKind.i64.wrap (((List.length old) : Int) + (1 : Int)))).toNat (List.length (putL (List.set (putL (List.replicate ((IntKind.i64.wrap (((List.length old) : Int) + (1 : Int)))).toNat ((0 : Int), (bs []), ())) (List.take ((IntKind.i64.wrap (((List.length old) : Int) + (1 : Int)))).toNat (List.drop 0 (List.take (((at_ : Nat) : Int)).toNat old))) 0) (((at_ : Nat) : Int)).toNat (no, t, ())) (List.take (((IntKind.i64.wrap (((List.length old) : Int) + (1 : Int)))).toNat - ((IntKind.i64.wrap (((at_ : Nat) : Int) + (1 : Int)))).toNat) (List.drop (((at_ : Nat) : Int)).toNat (List.take (List.length old) old))) ((IntKind.i64.wrap (((at_ : Nat) : Int) + (1 : Int)))).toNat))) then (some (q, (putL (List.set (putL (List.replicate ((IntKind.i64.wrap (((List.length old) : Int) + (1 : Int)))).toNat ((0 : Int), (bs []), ())) (List.take ((IntKind.i64.wrap (((List.length old) : Int) + (1 : Int)))).toNat (List.drop 0 (List.take (((at_ : Nat) : Int)).toNat old))) 0) (((at_ : Nat) : Int)).toNat (no, t, ())) (List.take (((IntKind.i64.wrap (((List.length old) : Int) + (1 : Int)))).toNat - ((IntKind.i64.wrap (((at_ : Nat) : Int) + (1 : Int)))).toNat) (List.drop (((at_ : Nat) : Int)).toNat (List.take (List.length old) old))) ((IntKind.i64.wrap (((at_ : Nat) : Int) + (1 : Int)))).toNat), ())) else none) else none) else none) else none) else none) else none) else none) else none)) else none) else none) else none) else none) else none) else none) = some (q, old.take at_ ++ (no, t, ()) :: old.drop at_, ()) := by
  have w1 : IntKind.i64.wrap ((old.length : Int) + 1) = ((old.length + 1 : Nat) : Int) := i64_succ (by omega)
  have w2 : IntKind.i64.wrap ((at_ : Int) + 1) = ((at_ + 1 : Nat) : Int) := i64_succ (by omega)
  simp only [w1, w2, Int.toNat_natCast]
  have key := putL_zero old at_ (no, t, ()) ((0 : Int), bs [], ()) h
  have l1 : (putL (List.replicate (old.length + 1) ((0 : Int), (bs []), ())) (List.take (old.length + 1) (List.drop 0 (List.take at_ old))) 0).length = old.length + 1 := by
    unfold putL; simp; omega
  have l2 : (old.take at_ ++ (no, t, ()) :: old.drop at_).length = old.length + 1 := by
    rw [List.length_append, List.length_take, List.length_cons, List.length_drop]; omega
  have d2 : decide ((0 : Int) ≤ ((old.length + 1 : Nat) : Int)) = true := decide_eq_true (by omega)
  have d3 : decide (((old.length + 1 : Nat) : Int) * 24 ≤ 140737488355328) = true := decide_eq_true (by omega)
  have d4 : decide ((0 : Int) ≤ (at_ : Int)) = true := decide_eq_true (by omega)
  have d5 : decide ((at_ : Int) ≤ (old.length : Int)) = true := decide_eq_true (by omega)
  have d9 : decide ((0 : Int) ≤ ((at_ + 1 : Nat) : Int)) = true := decide_eq_true (by omega)
  have d10 : decide (((at_ + 1 : Nat) : Int) ≤ ((old.length + 1 : Nat) : Int)) = true := decide_eq_true (by omega)
  have b1 : Nat.ble (at_ + 1) (old.length + 1) = true := Nat.ble_eq_true_of_le (by omega)
  have hw : ∀ {R : Type} (x : Option R), within (at_ : Int) (old.length + 1) x = x := fun x => within_nat_lt (by omega)
  simp only [decide_true, cond_true, d2, d3, d4, d5, List.length_replicate, Nat.beq_refl, hw, l1, b1, d9, d10, List.length_set, key, l2]
def insV (l : List Val) (no : Int) (t : ByteArray) : List Val :=
  bif decide (idxGt no l 0 < 0) then l ++ [(no, t, ())] else l.take (idxGt no l 0).toNat ++ (no, t, ()) :: l.drop (idxGt no l 0).toNat
def withM (m : Msg) (no : Int) (t : ByteArray) : Msg := (m.1, insV (dropV m.2.1 no) no t, ())
theorem MWith_eq (m : Msg) (no : Int) (t : ByteArray) (h : m.2.1.length ≤ 1000000) : msg_With m no t = some (withM m no t) := by
  unfold msg_With msg_With_s0 withM
  have hl := dropV_len m.2.1 no
  rw [MWithout_eq m no h, some_bind]
  dsimp only
  generalize dropV m.2.1 no = old at *
  rw [IndexGt_eq old no (by omega), some_bind]
  dsimp only
  unfold insV
  rcases idxGt_cases no old 0 (Int.le_refl _) with ⟨h1, _⟩ | h1
  · rw [h1, decide_eq_true (by omega : (-1 : Int) < 0), cond_true, cond_true]
    refine (with_tail m.1 t no old old.length (Nat.le_refl _) (by omega)).trans ?_
    rw [List.take_length, List.drop_length]
  · rw [decide_eq_false (by omega : ¬ idxGt no old 0 < 0), cond_false, cond_false]
    obtain ⟨n, hn⟩ : ∃ n : Nat, idxGt no old 0 = n := ⟨(idxGt no old 0).toNat, by omega⟩
    rw [hn]
    refine (with_tail m.1 t no old n (by omega) (by omega)).trans ?_
    rw [Int.toNat_natCast]
def fieldsC (s : Schema) : List Val → Int → Option Fault
  | [], _ => none
  | x :: r, last => bif decide (x.1 ≤ last) then some (11, x.1, ()) else bif !hasS s x.1 then some (9, x.1, ()) else bif !decide (valC (getS s x.1) x.2.1 = 0) then some (valC (getS s x.1) x.2.1, x.1, ()) else fieldsC s r x.1
def fieldsX (o : Option Fault) : Option (Sum Fault Fault) := some (match o with
  | some f => .inl f
  | none => .inr fault0)
theorem fields_run (s : Schema) (hs : s.2.2.1.length ≤ maxLen) : ∀ (l : List Val) (i last : Int), (∀ v ∈ l, v.2.1.size ≤ 1099511627776) →
    runI (fun i (x : Val) (t9 : Int) K => (bif (decide (x.1 ≤ t9)) then some (Sum.inl ((11 : Int), x.1, ())) else ((schema_Find s x.1).bind fun r3 => (bif (!r3.2) then some (Sum.inl ((9 : Int), x.1, ())) else ((spec_Value r3.1 x.2.1).bind fun r4 => (bif (!(decide (r4 = (0 : Int)))) then some (Sum.inl (r4, x.1, ())) else K x.1)))))) (fun _ => some (Sum.inr fault0)) l i last = fieldsX (fieldsC s l last)
  | [], i, last, _ => rfl
  | x :: r, i, last, h => by
    rw [runI, fieldsC, Find_eq2 s _ hs, some_bind]
    cases decide (x.1 ≤ last) with
    | true => rfl
    | false =>
      rw [cond_false, cond_false]
      dsimp only
      cases hasS s x.1 with
      | false => rfl
      | true =>
        rw [Bool.not_true, cond_false, cond_false, Value_eq' _ _ (h x List.mem_cons_self), some_bind]
        cases decide (valC (getS s x.1) x.2.1 = 0) with
        | false => rfl
        | true =>
          rw [Bool.not_true, cond_false, cond_false]
          exact fields_run s hs r (i + 1) x.1 (fun v hv => h v (List.mem_cons_of_mem _ hv))
def msgC (s : Schema) (m : Msg) : Fault :=
  bif !decide ((schemaC s).1 = 0) then (1, -1, ()) else bif !rightM m.1 then (7, 0, ()) else bif !decide (verM m.1 = s.2.1) then (7, 0, ()) else match fieldsC s m.2.1 0 with
    | some f => f
    | none => fault0
theorem msgCheck_eq (s : Schema) (m : Msg) (hs : s.2.2.1.length ≤ maxLen) (h : MsgOk m) : msg_Check s m = some (msgC s m) := by
  unfold msg_Check msg_Check_s0 msgC
  rw [Check_eq s hs, some_bind, Version_eq m.1 (by rw [maxLen_eq]; exact h.mti), some_bind]
  cases decide ((schemaC s).1 = 0) with
  | false => rfl
  | true =>
    rw [Bool.not_true, cond_false, cond_false]
    dsimp only
    cases rightM m.1 with
    | false => rfl
    | true =>
      rw [Bool.not_true, cond_false, cond_false]
      cases decide (verM m.1 = s.2.1) with
      | false => rfl
      | true =>
        rw [Bool.not_true, cond_false, cond_false]
        have hl := h.len
        have := loopI vnil m.2.1 (by rw [maxLen_eq]; omega) (fun i (x : Val) (t9 : Int) K => (bif (decide (x.1 ≤ t9)) then some (Sum.inl ((11 : Int), x.1, ())) else ((schema_Find s x.1).bind fun r3 => (bif (!r3.2) then some (Sum.inl ((9 : Int), x.1, ())) else ((spec_Value r3.1 x.2.1).bind fun r4 => (bif (!(decide (r4 = (0 : Int)))) then some (Sum.inl (r4, x.1, ())) else K x.1)))))) (fun _ => some (Sum.inr fault0))
          (fun k i t9 => msg_Check_l0 k t9 m.2.1 (m.2.1.length : Int) i s fault0) (fun k i t9 => rfl) 0
        rw [this, fields_run s hs _ _ _ h.txt]
        unfold fieldsX
        cases fieldsC s m.2.1 0 <;> rfl
def eqV (x y : Val) : Bool := (decide (x.1 = y.1)) && ((decide (x.2.1 = y.2.1)) && true)
theorem eqV_iff (x y : Val) : eqV x y = true ↔ x = y := by
  unfold eqV
  simp only [Bool.and_eq_true, decide_eq_true_eq, and_true]
  exact ⟨fun h => Prod.ext h.1 (Prod.ext h.2 rfl), fun h => by rw [h]; exact ⟨rfl, rfl⟩⟩
theorem msg_ext {a b : Msg} : a = b ↔ a.1 = b.1 ∧ a.2.1 = b.2.1 := ⟨fun h => by rw [h]; exact ⟨rfl, rfl⟩, fun h => Prod.ext h.1 (Prod.ext h.2 rfl)⟩
theorem Same16_eq (a b : Msg) (h : a.2.1.length ≤ maxLen) : r16_Same a b = some (decide (a = b)) := by
  unfold r16_Same r16_Same_s0
  by_cases h1 : a.1 = b.1
  · rw [decide_eq_true h1, Bool.not_true, cond_false]
    by_cases h2 : a.2.1.length = b.2.1.length
    · rw [decide_eq_true (by omega), Bool.not_true, cond_false]
      dsimp only
      rw [same_loop vnil eqV eqV_iff a.2.1 b.2.1 h2 h (fun k i => r16_Same_l0 k i a b) (fun k i => rfl)]
      by_cases e : a.2.1 = b.2.1
      · rw [if_pos e, decide_eq_true (msg_ext.2 ⟨h1, e⟩)]; rfl
      · rw [if_neg e, decide_eq_false (fun hh => e (msg_ext.1 hh).2)]; rfl
    · have e : decide (a = b) = false := decide_eq_false (fun hh => h2 (by rw [hh]))
      rw [e, decide_eq_false (by omega : ¬ ((a.2.1.length : Int) = (b.2.1.length : Int)))]; rfl
  · have e : decide (a = b) = false := decide_eq_false (fun hh => h1 (by rw [hh]))
    rw [e, decide_eq_false h1]; rfl
def greatV (m : Msg) : Bool := decide ((100 : Int) < (m.1.size : Int)) || (decide ((200 : Int) < (m.2.1.length : Int)) || m.2.1.any fun v => decide ((1200 : Int) < (v.2.1.size : Int)))
theorem gv_run : ∀ (l : List Val) (i : Int), runI (fun i (x : Val) (s : Unit) K => (bif (decide ((1200 : Int) < ((x.2.1).size : Int))) then some (Sum.inl true) else K s)) (fun _ => some (Sum.inr ())) l i () = some (bif l.any (fun v => decide ((1200 : Int) < (v.2.1.size : Int))) then Sum.inl true else Sum.inr ())
  | [], i => rfl
  | x :: r, i => by
    rw [runI, List.any_cons]
    cases decide ((1200 : Int) < (x.2.1.size : Int)) with
    | true => rfl
    | false => rw [cond_false, Bool.false_or]; exact gv_run r (i + 1)
theorem Great16_eq (m : Msg) (h : m.2.1.length ≤ maxLen) : r16_Great m = some (greatV m) := by
  unfold r16_Great r16_Great_s0 greatV
  cases decide ((100 : Int) < (m.1.size : Int)) with
  | true => rfl
  | false =>
    cases decide ((200 : Int) < (m.2.1.length : Int)) with
    | true => rfl
    | false =>
      rw [cond_false, cond_false, Bool.false_or, Bool.false_or]
      dsimp only
      have := loopI vnil m.2.1 h (fun i (x : Val) (s : Unit) K => (bif (decide ((1200 : Int) < ((x.2.1).size : Int))) then some (Sum.inl true) else K s)) (fun _ => some (Sum.inr ()))
        (fun k i s => r16_Great_l0 k i m) (fun k i s => rfl) ()
      rw [this, gv_run]
      cases m.2.1.any (fun v => decide ((1200 : Int) < (v.2.1.size : Int))) <;> rfl
theorem greatV_ok {m : Msg} (h : greatV m = false) : MsgOk m ∧ m.2.1.length ≤ 200 ∧ ∀ v ∈ m.2.1, v.2.1.size ≤ 1200 := by
  unfold greatV at h
  rw [Bool.or_eq_false_iff, Bool.or_eq_false_iff, decide_eq_false_iff_not, decide_eq_false_iff_not] at h
  obtain ⟨h1, h2, h3⟩ := h
  have hv : ∀ v ∈ m.2.1, v.2.1.size ≤ 1200 := fun v hv => by
    have := List.any_eq_false.1 h3 v hv
    simp only [decide_eq_true_eq] at this
    omega
  exact ⟨⟨by omega, by omega, fun v hm => Nat.le_trans (hv v hm) (by omega)⟩, by omega, hv⟩
end Groat
set_option linter.unusedVariables false
set_option linter.unusedSimpArgs false
namespace Groat
open Go Go.Ref
theorem dig_byte {l : List Int} (h : allD l = true) : ∀ x ∈ l, isByte x := fun x hx => by
  have := List.all_eq_true.1 h x hx
  simp only [isDig, decide_eq_true_eq] at this
  unfold isByte; omega
theorem set_rep (x : Int) (tail : List Int) : ∀ j, (List.replicate (j + 1) (0 : Int) ++ tail).set j x = List.replicate j 0 ++ x :: tail
  | 0 => rfl
  | j + 1 => by
    show (0 : Int) :: ((List.replicate (j + 1) (0 : Int) ++ tail).set j x) = 0 :: (List.replicate j 0 ++ x :: tail)
    rw [set_rep x tail j]
end Groat
set_option linter.unusedVariables false
set_option linter.unusedSimpArgs false
namespace Groat
open Go Go.Ref
def allZ (l : List Int) : Bool := l.all fun b => decide (b = 48)
theorem allZ_cons (b : Int) (l : List Int) : allZ (b :: l) = (decide (b = 48) && allZ l) := rfl
theorem allZ_append (a b : List Int) : allZ (a ++ b) = (allZ a && allZ b) := List.all_append ..
theorem bl_byteAt0 (s : ByteArray) (x : Int) (l : List Int) (h : bl s = x :: l) : byteAt s 0 = x := by rw [bl_byteAt, h]; rfl
theorem trimR (k : Nat) : ∀ (s : ByteArray), s.size < k → s.size ≤ 9223372036854775807 → ∃ r, strings_trimRightByte_l0 k s 48 = some r ∧ allZ (bl r) = allZ (bl s) ∧ (allZ (bl s) = true → bl r = []) ∧ r.size ≤ s.size := by
  induction k with
  | zero => intro s h; omega
  | succ k ih =>
    intro s h hs
    unfold strings_trimRightByte_l0 strings_trimRightByte_s1
    dsimp only
    by_cases h0 : (0 : Int) < (s.size : Int)
    · have hm : IntKind.i64.wrap ((s.size : Int) - 1) = ((s.size - 1 : Nat) : Int) := by rw [i64_id (by omega) (by omega)]; omega
      rw [decide_eq_true h0, cond_true, hm, within_nat_lt (by omega), Int.toNat_natCast]
      have hl : (bl s).length = s.size := bl_length s
      have hne : bl s ≠ [] := by intro e; rw [e] at hl; simp at hl; omega
      obtain ⟨r, b, hb⟩ : ∃ r b, bl s = r ++ [b] := ⟨(bl s).dropLast, (bl s).getLast hne, (List.dropLast_concat_getLast hne).symm⟩
      have hr : r.length = s.size - 1 := by rw [hb] at hl; simp at hl; omega
      have hx : byteAt s (s.size - 1) = b := by
        rw [bl_byteAt, hb, ← hr, List.getD_eq_getElem?_getD]; simp
      rw [hx]
      by_cases hz : b = 48
      · rw [decide_eq_true hz, cond_true, decide_eq_true (by omega : (0 : Int) ≤ ((s.size - 1 : Nat) : Int)), cond_true, decide_eq_true (by omega : ((s.size - 1 : Nat) : Int) ≤ ((s.size : Nat) : Int)), cond_true]
        have he : bl (s.extract 0 (s.size - 1)) = r := by rw [bl_extract, hb, List.drop_zero, ← hr, List.take_left']; rfl
        have hsz : (s.extract 0 (s.size - 1)).size = s.size - 1 := by rw [← bl_length, he, hr]
        obtain ⟨q, q1, q2, q3, q4⟩ := ih (s.extract 0 (s.size - 1)) (by omega) (by omega)
        refine ⟨q, q1, ?_, fun ha => q3 ?_, by omega⟩
        · rw [q2, he, hb, allZ_append, allZ_cons, decide_eq_true hz]; simp [allZ]
        · rw [hb, allZ_append, Bool.and_eq_true] at ha
          rw [he]; exact ha.1
      · rw [decide_eq_false hz, cond_false]
        refine ⟨s, rfl, rfl, fun ha => ?_, Nat.le_refl _⟩
        rw [hb, allZ_append, allZ_cons, decide_eq_false hz] at ha
        simp at ha
    · rw [decide_eq_false h0, cond_false]
      refine ⟨s, rfl, rfl, fun _ => List.eq_nil_of_length_eq_zero (by rw [bl_length]; omega), Nat.le_refl _⟩
theorem drop1 {s : ByteArray} {x : Int} {l : List Int} (h : bl s = x :: l) : bl (s.extract 1 s.size) = l := by
  rw [bl_extract, ← bl_length, List.take_length, h]; rfl
theorem trimL (k : Nat) : ∀ (s : ByteArray), s.size < k → s.size ≤ 9223372036854775807 → ∃ r, strings_trimLeftByte_l0 k s 48 = some r ∧ ((bl r = []) ↔ allZ (bl s) = true) := by
  induction k with
  | zero => intro s h; omega
  | succ k ih =>
    intro s h hs
    unfold strings_trimLeftByte_l0 strings_trimLeftByte_s1
    dsimp only
    have hl : (bl s).length = s.size := bl_length s
    by_cases h0 : (0 : Int) < (s.size : Int)
    · rw [decide_eq_true h0, cond_true, within_int (by omega) h0]
      cases hb : bl s with
      | nil => rw [hb] at hl; simp at hl; omega
      | cons x l =>
        rw [show ((0 : Int)).toNat = 0 from rfl, show ((1 : Int)).toNat = 1 from rfl, bl_byteAt0 s x l hb]
        by_cases hz : x = 48
        · rw [decide_eq_true hz, cond_true, decide_eq_true (by omega : (1 : Int) ≤ ((s.size : Nat) : Int)), cond_true]
          have he := drop1 hb
          have hsz : (s.extract 1 s.size).size = s.size - 1 := by rw [← bl_length, he, ← hl, hb]; simp
          obtain ⟨q, q1, q2⟩ := ih (s.extract 1 s.size) (by omega) (by omega)
          refine ⟨q, q1, q2.trans ?_⟩
          rw [he, allZ_cons, decide_eq_true hz]; simp
        · rw [decide_eq_false hz, cond_false]
          refine ⟨s, rfl, ?_⟩
          rw [hb, allZ_cons, decide_eq_false hz]; simp
    · rw [decide_eq_false h0, cond_false]
      have : bl s = [] := List.eq_nil_of_length_eq_zero (by omega)
      refine ⟨s, rfl, ?_⟩
      rw [this]; simp [allZ]
theorem Trim_eq (s : ByteArray) (h : s.size ≤ 9223372036854775807) : ∃ r, strings_Trim s (bs [48]) = some r ∧ (r = bs [] ↔ allZ (bl s) = true) := by
  unfold strings_Trim strings_Trim_s0
  by_cases h0 : s = bs []
  · rw [decide_eq_true h0, cond_true]
    refine ⟨s, rfl, ?_⟩
    rw [h0]; simp [bl_empty, allZ]
  rw [decide_eq_false h0, cond_false, decide_eq_false (show ¬ bs [48] = bs [] from fun e => absurd (congrArg ByteArray.size e) (by decide)), cond_false, decide_eq_true (by rfl : (((bs [48]).size : Nat) : Int) = 1), cond_true]
  have hb : byteAt (bs [48]) ((0 : Int)).toNat = 48 := by rw [bl_byteAt]; rfl
  have hw {R : Type} (x : Option R) : within (0 : Int) (bs [48]).size x = x := within_int (by omega) (by decide)
  rw [hw, hb, decide_eq_true (by decide : (48 : Int) < 128), cond_true, hw]
  unfold strings_trimRightByte strings_trimRightByte_s0
  dsimp only
  obtain ⟨r, r1, r2, r3, r4⟩ := trimR FUEL s (by rw [fuel_eq]; omega) h
  rw [r1, some_bind]
  unfold strings_trimRightByte_s2
  rw [some_bind, hw]
  unfold strings_trimLeftByte strings_trimLeftByte_s0
  dsimp only
  obtain ⟨q, q1, q2⟩ := trimL FUEL r (by rw [fuel_eq]; omega) (by omega)
  rw [q1, some_bind]
  unfold strings_trimLeftByte_s2
  rw [some_bind]
  refine ⟨q, rfl, ?_⟩
  rw [bl_nil_iff, q2, r2]
theorem repeat_bl : ∀ (c : Nat), bl ⟨(Go.Lib.repeatL (bs [48]).data.toList c).toArray⟩ = List.replicate c 48
  | 0 => rfl
  | c + 1 => by
    rw [List.replicate_succ, ← repeat_bl c]
    simp only [bl, Go.Lib.repeatL, List.map_append]
    rfl
def padD (s : ByteArray) (w : Int) : ByteArray × Bool :=
  bif decide (1 ≤ s.size ∧ s.size ≤ 999 ∧ allD (bl s) = true ∧ 1 ≤ w ∧ w ≤ 999) then
    (bif decide ((s.size : Int) ≤ w) then (strOf (List.replicate (w - s.size).toNat 48 ++ bl s), true)
     else bif allZ ((bl s).take (s.size - w.toNat)) then (strOf ((bl s).drop (s.size - w.toNat)), true) else (bs [], false))
  else (bs [], false)
theorem padD_f {s : ByteArray} {w : Int} (h : ¬ (1 ≤ s.size ∧ s.size ≤ 999 ∧ allD (bl s) = true ∧ 1 ≤ w ∧ w ≤ 999)) : padD s w = (bs [], false) := by unfold padD; rw [decide_eq_false h]; rfl
theorem padD_t {s : ByteArray} {w : Int} (h : 1 ≤ s.size ∧ s.size ≤ 999 ∧ allD (bl s) = true ∧ 1 ≤ w ∧ w ≤ 999) : padD s w = (bif decide ((s.size : Int) ≤ w) then (strOf (List.replicate (w - s.size).toNat 48 ++ bl s), true)
     else bif allZ ((bl s).take (s.size - w.toNat)) then (strOf ((bl s).drop (s.size - w.toNat)), true) else (bs [], false)) := by unfold padD; rw [decide_eq_true h]; rfl
theorem Pad_eq (s : ByteArray) (w : Int) (h : s.size ≤ maxLen) : digits_Pad s w = some (padD s w) := by
  unfold digits_Pad digits_Pad_s0
  dsimp only
  by_cases h0 : s = bs []
  · rw [decide_eq_true h0, cond_true, padD_f]
    intro hh
    rw [h0] at hh
    exact absurd hh.1 (by decide)
  have hz : s.size ≠ 0 := fun e => h0 (bl_nil_iff.2 (List.eq_nil_of_length_eq_zero (by rw [bl_length]; exact e)))
  rw [decide_eq_false h0, cond_false]
  by_cases h1 : (999 : Int) < (s.size : Int)
  · rw [decide_eq_true h1, cond_true, padD_f (by omega)]
  rw [decide_eq_false h1, cond_false, All_eq s h, some_bind]
  cases hd : allD (bl s) with
  | false => rw [padD_f (by rw [hd]; simp)]; rfl
  | true =>
    rw [Bool.not_true, cond_false]
    by_cases h2 : w < 1
    · rw [decide_eq_true h2, cond_true, padD_f (by omega)]
    rw [decide_eq_false h2, cond_false]
    by_cases h3 : (999 : Int) < w
    · rw [decide_eq_true h3, cond_true, padD_f (by omega)]
    rw [decide_eq_false h3, cond_false, padD_t ⟨by omega, by omega, hd, by omega, by omega⟩]
    obtain ⟨v, rfl⟩ : ∃ v : Nat, w = v := ⟨w.toNat, by omega⟩
    by_cases h4 : (s.size : Int) ≤ (v : Int)
    · rw [decide_eq_true h4, cond_true, cond_true]
      obtain ⟨c, hc⟩ : ∃ c : Nat, (v : Int) - (s.size : Int) = (c : Int) := ⟨v - s.size, by omega⟩
      rw [hc, i64_nat (by omega)]
      have hR : strings_Repeat (bs [48]) (c : Int) = some ⟨(Go.Lib.repeatL (bs [48]).data.toList c).toArray⟩ := by
        unfold strings_Repeat
        rw [decide_eq_true (by omega : (0 : Int) ≤ (c : Int)), decide_eq_true (by omega : (c : Int) ≤ 9223372036854775807), decide_eq_true (by rw [show (((bs [48]).size : Nat) : Int) = 1 from rfl]; omega), Int.toNat_natCast]
        rfl
      rw [hR, some_bind]
      have hsz : ((⟨(Go.Lib.repeatL (bs [48]).data.toList c).toArray⟩ : ByteArray)).size = c := by rw [← bl_length, repeat_bl, List.length_replicate]
      rw [hsz, decide_eq_true (by omega), cond_true, Int.toNat_natCast]
      congr 2
      apply bl_inj
      rw [bl_append, repeat_bl, bl_strOf]
      intro x hx
      rcases List.mem_append.1 hx with hx | hx
      · rw [(List.mem_replicate.1 hx).2]; unfold isByte; omega
      · exact bl_byte hx
    · rw [decide_eq_false h4, cond_false, cond_false]
      obtain ⟨c, hc⟩ : ∃ c : Nat, (s.size : Int) - (v : Int) = (c : Int) := ⟨s.size - v, by omega⟩
      have hcv : s.size - ((v : Int)).toNat = c := by omega
      rw [hc, i64_nat (by omega), decide_eq_true (by omega : (0 : Int) ≤ (c : Int)), cond_true, decide_eq_true (by omega : (c : Int) ≤ ((s.size : Nat) : Int)), cond_true, Int.toNat_natCast, hcv]
      have hx : bl (s.extract 0 c) = (bl s).take c := by rw [bl_extract, List.drop_zero]
      have hxs : (s.extract 0 c).size = c := by rw [← bl_length, hx, List.length_take, bl_length]; omega
      obtain ⟨r, r1, r2⟩ := Trim_eq (s.extract 0 c) (by omega)
      rw [r1, some_bind]
      rw [hx] at r2
      cases ha : allZ ((bl s).take c) with
      | true =>
        rw [decide_eq_true (r2.2 ha), Bool.not_true, cond_false, cond_true, cond_true]
        congr 2
        apply bl_inj
        rw [bl_extract, ← bl_length, List.take_length, bl_strOf]
        exact fun x hx => bl_byte (List.mem_of_mem_drop hx)
      | false =>
        rw [decide_eq_false (fun e => by rw [r2.1 e] at ha; cases ha), Bool.not_false, cond_true]; rfl
end Groat
