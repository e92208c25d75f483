/- No condition. -/
import Derived.Test.YtmbobepkfagkgaaGreatDoorK1
import Derived.KernelRfl
set_option linter.unusedVariables false
set_option linter.unusedSimpArgs false
set_option maxRecDepth 100000
namespace Groat
open Go Go.Ref
def r13_Check_s0 {R : Type} (s_0 : Zt17) (kr0 : Int → Int → Option R) (go0 : Int → Int → Zt17 → Option R) : Option R :=
  (bif (!(decide (s_0.1 = (1 : Int)))) then (bif (!(decide (s_0.1 = (2 : Int)))) then (kr0 (1 : Int) (-1 : Int)) else (bif (decide (s_0.2.1 < (0 : Int))) then (kr0 (7 : Int) (-1 : Int)) else (bif (decide ((9 : Int) < s_0.2.1)) then (kr0 (7 : Int) (-1 : Int)) else (go0 (0 : Int) (0 : Int) s_0)))) else (bif (decide (s_0.2.1 < (0 : Int))) then (kr0 (7 : Int) (-1 : Int)) else (bif (decide ((9 : Int) < s_0.2.1)) then (kr0 (7 : Int) (-1 : Int)) else (go0 (0 : Int) (0 : Int) s_0))))
theorem r13_Check_s0_bind {R S : Type} (F : R → Option S) (s_0 : Zt17) (kr0 : Int → Int → Option R) (go0 : Int → Int → Zt17 → Option R) : (r13_Check_s0 s_0 kr0 go0).bind F = r13_Check_s0 s_0 (fun a0 a1 => (kr0 a0 a1).bind F) (fun a0 a1 a2 => (go0 a0 a1 a2).bind F) := by
  simp only [r13_Check_s0, cond_bind, within_bind, none_bind, some_bind, sum_bind, bind_bind]
def r13_Check_s1 {R : Type} (t4 : Int) (t5 : Int) (bt1 : Zt17) (ex0_0 : Int → Int → Option R) (nx0 : Int → Int → Zt17 → Option R) (ex0_1 : Option R) : Option R :=
  (bif (decide (t5 < ((List.length bt1.2.2.1) : Int))) then (within t5 (List.length bt1.2.2.1) ((r11_Check (List.getD bt1.2.2.1 (t5).toNat ((0 : Int), (0 : Int), (0 : Int), (0 : Int), (0 : Int), ()))).bind fun r1 => (bif (!(decide (r1 = (0 : Int)))) then (ex0_0 r1 t5) else (within t5 (List.length bt1.2.2.1) (bif (decide ((List.getD bt1.2.2.1 (t5).toNat ((0 : Int), (0 : Int), (0 : Int), (0 : Int), (0 : Int), ())).1 ≤ t4)) then (ex0_0 (11 : Int) t5) else (within t5 (List.length bt1.2.2.1) (nx0 (List.getD bt1.2.2.1 (t5).toNat ((0 : Int), (0 : Int), (0 : Int), (0 : Int), (0 : Int), ())).1 (IntKind.i64.wrap (t5 + (1 : Int))) bt1))))))) else (ex0_1))
theorem r13_Check_s1_bind {R S : Type} (F : R → Option S) (t4 : Int) (t5 : Int) (bt1 : Zt17) (ex0_0 : Int → Int → Option R) (nx0 : Int → Int → Zt17 → Option R) (ex0_1 : Option R) : (r13_Check_s1 t4 t5 bt1 ex0_0 nx0 ex0_1).bind F = r13_Check_s1 t4 t5 bt1 (fun a0 a1 => (ex0_0 a0 a1).bind F) (fun a0 a1 a2 => (nx0 a0 a1 a2).bind F) ((ex0_1).bind F) := by
  simp only [r13_Check_s1, cond_bind, within_bind, none_bind, some_bind, sum_bind, bind_bind]
def r13_Check_s2 {R : Type} (t2 : Int) (t3 : Int) (kr0 : Int → Int → Option R) : Option R :=
  (kr0 t2 t3)
theorem r13_Check_s2_bind {R S : Type} (F : R → Option S) (t2 : Int) (t3 : Int) (kr0 : Int → Int → Option R) : (r13_Check_s2 t2 t3 kr0).bind F = r13_Check_s2 t2 t3 (fun a0 a1 => (kr0 a0 a1).bind F) := by
  simp only [r13_Check_s2, cond_bind, within_bind, none_bind, some_bind, sum_bind, bind_bind]
def r13_Check_s3 {R : Type}  (kr0 : Int → Int → Option R) : Option R :=
  (kr0 (0 : Int) (0 : Int))
theorem r13_Check_s3_bind {R S : Type} (F : R → Option S)  (kr0 : Int → Int → Option R) : (r13_Check_s3 kr0).bind F = r13_Check_s3 (fun a0 a1 => (kr0 a0 a1).bind F) := by
  simp only [r13_Check_s3, cond_bind, within_bind, none_bind, some_bind, sum_bind, bind_bind]
def r13_Check_l0 : Nat → Int → Int → Zt17 → Option (Sum (Int × Int) Unit)
  | 0, _, _, _ => none
  | k + 1, v0, v1, v2 => r13_Check_s1 v0 v1 v2 (fun a0 a1 => some (.inl (a0, a1))) (fun a0 a1 a2 => r13_Check_l0 k a0 a1 a2) (some (.inr ()))
def r13_Check (s_0 : Zt17) : Option (Int × Int) :=
  r13_Check_s0 s_0 (fun a0 a1 => some (a0, a1)) (fun a0 a1 a2 => (r13_Check_l0 FUEL a0 a1 a2).bind fun e => (Sum.elim (fun (we : (Int × Int)) => r13_Check_s2 we.1 we.2 (fun a0 a1 => some (a0, a1))) (fun (we : Unit) => r13_Check_s3 (fun a0 a1 => some (a0, a1))) e))
def r13_Find_s0 {R : Type} (s_0 : Zt17) (no_1 : Int) (go0 : Int → Int → Zt17 → Option R) : Option R :=
  (go0 no_1 (0 : Int) s_0)
theorem r13_Find_s0_bind {R S : Type} (F : R → Option S) (s_0 : Zt17) (no_1 : Int) (go0 : Int → Int → Zt17 → Option R) : (r13_Find_s0 s_0 no_1 go0).bind F = r13_Find_s0 s_0 no_1 (fun a0 a1 a2 => (go0 a0 a1 a2).bind F) := by
  simp only [r13_Find_s0, cond_bind, within_bind, none_bind, some_bind, sum_bind, bind_bind]
def r13_Find_s1 {R : Type} (no_1 : Int) (t5 : Int) (bt2 : Zt17) (ex0_0 : Int → Option R) (nx0 : Int → Int → Zt17 → Option R) (ex0_1 : Option R) : Option R :=
  (bif (decide (t5 < ((List.length bt2.2.2.1) : Int))) then (within t5 (List.length bt2.2.2.1) (bif (decide ((List.getD bt2.2.2.1 (t5).toNat ((0 : Int), (0 : Int), (0 : Int), (0 : Int), (0 : Int), ())).1 = no_1)) then (ex0_0 t5) else (nx0 no_1 (IntKind.i64.wrap (t5 + (1 : Int))) bt2))) else (ex0_1))
theorem r13_Find_s1_bind {R S : Type} (F : R → Option S) (no_1 : Int) (t5 : Int) (bt2 : Zt17) (ex0_0 : Int → Option R) (nx0 : Int → Int → Zt17 → Option R) (ex0_1 : Option R) : (r13_Find_s1 no_1 t5 bt2 ex0_0 nx0 ex0_1).bind F = r13_Find_s1 no_1 t5 bt2 (fun a0 => (ex0_0 a0).bind F) (fun a0 a1 a2 => (nx0 a0 a1 a2).bind F) ((ex0_1).bind F) := by
  simp only [r13_Find_s1, cond_bind, within_bind, none_bind, some_bind, sum_bind, bind_bind]
def r13_Find_s2 {R : Type} (t4 : Int) (kr0 : Int → Option R) : Option R :=
  (kr0 t4)
theorem r13_Find_s2_bind {R S : Type} (F : R → Option S) (t4 : Int) (kr0 : Int → Option R) : (r13_Find_s2 t4 kr0).bind F = r13_Find_s2 t4 (fun a0 => (kr0 a0).bind F) := by
  simp only [r13_Find_s2, cond_bind, within_bind, none_bind, some_bind, sum_bind, bind_bind]
def r13_Find_s3 {R : Type}  (kr0 : Int → Option R) : Option R :=
  (kr0 (-1 : Int))
theorem r13_Find_s3_bind {R S : Type} (F : R → Option S)  (kr0 : Int → Option R) : (r13_Find_s3 kr0).bind F = r13_Find_s3 (fun a0 => (kr0 a0).bind F) := by
  simp only [r13_Find_s3, cond_bind, within_bind, none_bind, some_bind, sum_bind, bind_bind]
def r13_Find_l0 : Nat → Int → Int → Zt17 → Option (Sum Int Unit)
  | 0, _, _, _ => none
  | k + 1, v0, v1, v2 => r13_Find_s1 v0 v1 v2 (fun a0 => some (.inl a0)) (fun a0 a1 a2 => r13_Find_l0 k a0 a1 a2) (some (.inr ()))
def r13_Find (s_0 : Zt17) (no_1 : Int) : Option Int :=
  r13_Find_s0 s_0 no_1 (fun a0 a1 a2 => (r13_Find_l0 FUEL a0 a1 a2).bind fun e => (Sum.elim (fun (we : Int) => r13_Find_s2 we (fun a0 => some a0)) (fun (we : Unit) => r13_Find_s3 (fun a0 => some a0)) e))
def r13_Right_s0 {R : Type} (s_0 : Zt17) (kr0 : Bool → Option R) : Option R :=
  ((r13_Check s_0).bind fun r1 => (kr0 (decide (r1.1 = (0 : Int)))))
theorem r13_Right_s0_bind {R S : Type} (F : R → Option S) (s_0 : Zt17) (kr0 : Bool → Option R) : (r13_Right_s0 s_0 kr0).bind F = r13_Right_s0 s_0 (fun a0 => (kr0 a0).bind F) := by
  simp only [r13_Right_s0, cond_bind, within_bind, none_bind, some_bind, sum_bind, bind_bind]
def r13_Right (s_0 : Zt17) : Option Bool :=
  r13_Right_s0 s_0 (fun a0 => some a0)
end Groat
set_option linter.unusedVariables false
set_option linter.unusedSimpArgs false
set_option maxRecDepth 100000
namespace Groat
open Go Go.Ref
def prefix_width_s0 {R : Type} (form_0 : Int) (kr0 : Int → Option R) : Option R :=
  (bif (decide (form_0 = (2 : Int))) then (kr0 (2 : Int)) else (bif (decide (form_0 = (3 : Int))) then (kr0 (3 : Int)) else (kr0 (0 : Int))))
theorem prefix_width_s0_bind {R S : Type} (F : R → Option S) (form_0 : Int) (kr0 : Int → Option R) : (prefix_width_s0 form_0 kr0).bind F = prefix_width_s0 form_0 (fun a0 => (kr0 a0).bind F) := by
  simp only [prefix_width_s0, cond_bind, within_bind, none_bind, some_bind, sum_bind, bind_bind]
def prefix_width (form_0 : Int) : Option Int :=
  prefix_width_s0 form_0 (fun a0 => some a0)
def prefix_Most_s0 {R : Type} (form_0 : Int) (go0 : Int → Int → Int → Option R) : Option R :=
  ((prefix_width form_0).bind fun r1 => (go0 (0 : Int) r1 (0 : Int)))
theorem prefix_Most_s0_bind {R S : Type} (F : R → Option S) (form_0 : Int) (go0 : Int → Int → Int → Option R) : (prefix_Most_s0 form_0 go0).bind F = prefix_Most_s0 form_0 (fun a0 a1 a2 => (go0 a0 a1 a2).bind F) := by
  simp only [prefix_Most_s0, cond_bind, within_bind, none_bind, some_bind, sum_bind, bind_bind]
def prefix_Most_s1 {R : Type} (t3 : Int) (t5 : Int) (t6 : Int) (nx0 : Int → Int → Int → Option R) (ex0_0 : Int → Option R) : Option R :=
  (bif (decide (t6 < t5)) then (nx0 (IntKind.i64.wrap ((IntKind.i64.wrap ((10 : Int) * t3)) + (9 : Int))) t5 (IntKind.i64.wrap (t6 + (1 : Int)))) else (ex0_0 t3))
theorem prefix_Most_s1_bind {R S : Type} (F : R → Option S) (t3 : Int) (t5 : Int) (t6 : Int) (nx0 : Int → Int → Int → Option R) (ex0_0 : Int → Option R) : (prefix_Most_s1 t3 t5 t6 nx0 ex0_0).bind F = prefix_Most_s1 t3 t5 t6 (fun a0 a1 a2 => (nx0 a0 a1 a2).bind F) (fun a0 => (ex0_0 a0).bind F) := by
  simp only [prefix_Most_s1, cond_bind, within_bind, none_bind, some_bind, sum_bind, bind_bind]
def prefix_Most_s2 {R : Type} (t3 : Int) (kr0 : Int → Option R) : Option R :=
  (kr0 t3)
theorem prefix_Most_s2_bind {R S : Type} (F : R → Option S) (t3 : Int) (kr0 : Int → Option R) : (prefix_Most_s2 t3 kr0).bind F = prefix_Most_s2 t3 (fun a0 => (kr0 a0).bind F) := by
  simp only [prefix_Most_s2, cond_bind, within_bind, none_bind, some_bind, sum_bind, bind_bind]
def prefix_Most_l0 : Nat → Int → Int → Int → Option Int
  | 0, _, _, _ => none
  | k + 1, v0, v1, v2 => prefix_Most_s1 v0 v1 v2 (fun a0 a1 a2 => prefix_Most_l0 k a0 a1 a2) (fun a0 => some a0)
def prefix_Most (form_0 : Int) : Option Int :=
  prefix_Most_s0 form_0 (fun a0 a1 a2 => (prefix_Most_l0 FUEL a0 a1 a2).bind fun e => prefix_Most_s2 e (fun a0 => some a0))
end Groat
set_option linter.unusedVariables false
set_option linter.unusedSimpArgs false
set_option maxRecDepth 100000
namespace Groat
open Go Go.Ref
def tag_first_s0 {R : Type} (b_0 : Int) (kr0 : Bool → Option R) : Option R :=
  (bif (decide ((0 : Int) < b_0)) then (bif (decide (b_0 ≤ (255 : Int))) then (kr0 (decide ((ibits .and .i64 b_0 (32 : Int)) = (0 : Int)))) else (kr0 false)) else (kr0 false))
theorem tag_first_s0_bind {R S : Type} (F : R → Option S) (b_0 : Int) (kr0 : Bool → Option R) : (tag_first_s0 b_0 kr0).bind F = tag_first_s0 b_0 (fun a0 => (kr0 a0).bind F) := by
  simp only [tag_first_s0, cond_bind, within_bind, none_bind, some_bind, sum_bind, bind_bind]
def tag_first (b_0 : Int) : Option Bool :=
  tag_first_s0 b_0 (fun a0 => some a0)
def tag_Right_s0 {R : Type} (tag_0 : Int) (kr0 : Bool → Option R) : Option R :=
  (bif (decide (tag_0 ≤ (255 : Int))) then ((tag_first tag_0).bind fun r1 => (bif r1 then (kr0 (!(decide ((ibits .and .i64 tag_0 (31 : Int)) = (31 : Int))))) else (kr0 false))) else (bif (decide (tag_0 ≤ (65535 : Int))) then ((tag_first (Int.fdiv tag_0 (2 ^ min ((8 : Int)).toNat 64))).bind fun r2 => (bif r2 then (bif (decide ((ibits .and .i64 (Int.fdiv tag_0 (2 ^ min ((8 : Int)).toNat 64)) (31 : Int)) = (31 : Int))) then (bif (decide ((1 : Int) ≤ (ibits .and .i64 tag_0 (255 : Int)))) then (kr0 (decide ((ibits .and .i64 tag_0 (255 : Int)) ≤ (127 : Int)))) else (kr0 false)) else (kr0 false)) else (kr0 false))) else (kr0 false)))
theorem tag_Right_s0_bind {R S : Type} (F : R → Option S) (tag_0 : Int) (kr0 : Bool → Option R) : (tag_Right_s0 tag_0 kr0).bind F = tag_Right_s0 tag_0 (fun a0 => (kr0 a0).bind F) := by
  simp only [tag_Right_s0, cond_bind, within_bind, none_bind, some_bind, sum_bind, bind_bind]
def tag_Right (tag_0 : Int) : Option Bool :=
  tag_Right_s0 tag_0 (fun a0 => some a0)
def tag_Get_s0 {R : Type} (b_0 : ByteArray) (at_1 : Int) (kr0 : Int → Int → Int → Option R) : Option R :=
  (bif (decide (at_1 < (0 : Int))) then (kr0 (0 : Int) (0 : Int) (1 : Int)) else (bif (decide (((b_0).size : Int) < at_1)) then (kr0 (0 : Int) (0 : Int) (1 : Int)) else (bif (decide (at_1 = ((b_0).size : Int))) then (kr0 (0 : Int) (0 : Int) (2 : Int)) else (within at_1 (b_0).size ((tag_first (IntKind.i64.wrap (byteAt b_0 (at_1).toNat))).bind fun r1 => (bif (!r1) then (kr0 (0 : Int) (0 : Int) (13 : Int)) else (bif (!(decide ((ibits .and .i64 (IntKind.i64.wrap (byteAt b_0 (at_1).toNat)) (31 : Int)) = (31 : Int)))) then (kr0 (IntKind.i64.wrap (byteAt b_0 (at_1).toNat)) (IntKind.i64.wrap (at_1 + (1 : Int))) (0 : Int)) else (bif (decide ((IntKind.i64.wrap (at_1 + (1 : Int))) = ((b_0).size : Int))) then (kr0 (0 : Int) (0 : Int) (2 : Int)) else (within (IntKind.i64.wrap (at_1 + (1 : Int))) (b_0).size ((tag_Right (ibits .or .i64 (IntKind.i64.wrap ((IntKind.i64.wrap (byteAt b_0 (at_1).toNat)) * 2 ^ min ((8 : Int)).toNat 64)) (IntKind.i64.wrap (byteAt b_0 ((IntKind.i64.wrap (at_1 + (1 : Int)))).toNat)))).bind fun r2 => (bif (!r2) then (kr0 (0 : Int) (0 : Int) (13 : Int)) else (kr0 (ibits .or .i64 (IntKind.i64.wrap ((IntKind.i64.wrap (byteAt b_0 (at_1).toNat)) * 2 ^ min ((8 : Int)).toNat 64)) (IntKind.i64.wrap (byteAt b_0 ((IntKind.i64.wrap (at_1 + (1 : Int)))).toNat))) (IntKind.i64.wrap (at_1 + (2 : Int))) (0 : Int)))))))))))))
theorem tag_Get_s0_bind {R S : Type} (F : R → Option S) (b_0 : ByteArray) (at_1 : Int) (kr0 : Int → Int → Int → Option R) : (tag_Get_s0 b_0 at_1 kr0).bind F = tag_Get_s0 b_0 at_1 (fun a0 a1 a2 => (kr0 a0 a1 a2).bind F) := by
  simp only [tag_Get_s0, cond_bind, within_bind, none_bind, some_bind, sum_bind, bind_bind]
def tag_Get (b_0 : ByteArray) (at_1 : Int) : Option Zt0 :=
  tag_Get_s0 b_0 at_1 (fun a0 a1 a2 => some (a0, a1, a2))
end Groat
set_option linter.unusedVariables false
set_option linter.unusedSimpArgs false
set_option maxRecDepth 100000
namespace Groat
open Go Go.Ref
def tlv_Get_s0 {R : Type} (b_0 : ByteArray) (go0 : ByteArray → Zt10 → Int → Zt5 → Option R) : Option R :=
  (go0 b_0 ([] : List Zt6) (0 : Int) ([] : List (Int × Bool)))
theorem tlv_Get_s0_bind {R S : Type} (F : R → Option S) (b_0 : ByteArray) (go0 : ByteArray → Zt10 → Int → Zt5 → Option R) : (tlv_Get_s0 b_0 go0).bind F = tlv_Get_s0 b_0 (fun a0 a1 a2 a3 => (go0 a0 a1 a2 a3).bind F) := by
  simp only [tlv_Get_s0, cond_bind, within_bind, none_bind, some_bind, sum_bind, bind_bind]
def tlv_Get_s1 {R : Type} (b_0 : ByteArray) (t5 : Zt10) (t7 : Int) (bt6 : Zt5) (ex0_0 : Zt10 → Int → Int → Zt10 → Option R) (nx0 : ByteArray → Zt10 → Int → Zt5 → Option R) (ex0_1 : Zt10 → Option R) : Option R :=
  (bif (decide (t7 < ((b_0).size : Int))) then ((tag_Get b_0 t7).bind fun r1 => (bif (!(decide (r1.2.2 = (0 : Int)))) then (ex0_0 ([] : List Zt6) r1.2.2 t7 t5) else ((ber_Get b_0 r1.2.1).bind fun r2 => (bif (!(decide (r2.2.2 = (0 : Int)))) then (ex0_0 ([] : List Zt6) r2.2.2 r1.2.1 t5) else (bif (decide ((IntKind.i64.wrap (((b_0).size : Int) - r2.2.1)) < r2.1)) then (ex0_0 ([] : List Zt6) (2 : Int) ((b_0).size : Int) t5) else (bif (mget (eqK (.int .i64)) false bt6 r1.1) then (ex0_0 ([] : List Zt6) (10 : Int) t7 t5) else (bif (mhas (eqK (.int .i64)) bt6 r1.1) then none else (bif (decide ((0 : Int) ≤ (IntKind.i64.wrap (r2.2.1 + r2.1)))) then (bif (decide ((IntKind.i64.wrap (r2.2.1 + r2.1)) ≤ (((b_0).size : Nat) : Int))) then (bif (decide ((0 : Int) ≤ r2.2.1)) then (bif (decide (r2.2.1 ≤ ((((IntKind.i64.wrap (r2.2.1 + r2.1))).toNat : Nat) : Int))) then (bif (decide (((List.length t5) + (List.length ([(r1.1, ((b_0).extract (r2.2.1).toNat ((IntKind.i64.wrap (r2.2.1 + r2.1))).toNat), ())] : List Zt6))) * 24 ≤ 140737488355328)) then (nx0 b_0 (t5 ++ ([(r1.1, ((b_0).extract (r2.2.1).toNat ((IntKind.i64.wrap (r2.2.1 + r2.1))).toNat), ())] : List Zt6)) (IntKind.i64.wrap (r2.2.1 + r2.1)) (bt6 ++ [(r1.1, true)])) else none) else none) else none) else none) else none)))))))) else (ex0_1 t5))
theorem tlv_Get_s1_bind {R S : Type} (F : R → Option S) (b_0 : ByteArray) (t5 : Zt10) (t7 : Int) (bt6 : Zt5) (ex0_0 : Zt10 → Int → Int → Zt10 → Option R) (nx0 : ByteArray → Zt10 → Int → Zt5 → Option R) (ex0_1 : Zt10 → Option R) : (tlv_Get_s1 b_0 t5 t7 bt6 ex0_0 nx0 ex0_1).bind F = tlv_Get_s1 b_0 t5 t7 bt6 (fun a0 a1 a2 a3 => (ex0_0 a0 a1 a2 a3).bind F) (fun a0 a1 a2 a3 => (nx0 a0 a1 a2 a3).bind F) (fun a0 => (ex0_1 a0).bind F) := by
  simp only [tlv_Get_s1, cond_bind, within_bind, none_bind, some_bind, sum_bind, bind_bind]
def tlv_Get_s2 {R : Type} (t2 : Zt10) (t3 : Int) (t4 : Int) (t5 : Zt10) (kr0 : Zt10 → Int → Int → Option R) : Option R :=
  (kr0 t2 t3 t4)
theorem tlv_Get_s2_bind {R S : Type} (F : R → Option S) (t2 : Zt10) (t3 : Int) (t4 : Int) (t5 : Zt10) (kr0 : Zt10 → Int → Int → Option R) : (tlv_Get_s2 t2 t3 t4 t5 kr0).bind F = tlv_Get_s2 t2 t3 t4 t5 (fun a0 a1 a2 => (kr0 a0 a1 a2).bind F) := by
  simp only [tlv_Get_s2, cond_bind, within_bind, none_bind, some_bind, sum_bind, bind_bind]
def tlv_Get_s3 {R : Type} (t5 : Zt10) (kr1 : Zt10 → Int → Int → Option R) : Option R :=
  (kr1 t5 (0 : Int) (0 : Int))
theorem tlv_Get_s3_bind {R S : Type} (F : R → Option S) (t5 : Zt10) (kr1 : Zt10 → Int → Int → Option R) : (tlv_Get_s3 t5 kr1).bind F = tlv_Get_s3 t5 (fun a0 a1 a2 => (kr1 a0 a1 a2).bind F) := by
  simp only [tlv_Get_s3, cond_bind, within_bind, none_bind, some_bind, sum_bind, bind_bind]
def tlv_Get_l0 : Nat → ByteArray → Zt10 → Int → Zt5 → Option (Sum Zt20 Zt10)
  | 0, _, _, _, _ => none
  | k + 1, v0, v1, v2, v3 => tlv_Get_s1 v0 v1 v2 v3 (fun a0 a1 a2 a3 => some (.inl (a0, a1, a2, a3))) (fun a0 a1 a2 a3 => tlv_Get_l0 k a0 a1 a2 a3) (fun a0 => some (.inr a0))
def tlv_Get (b_0 : ByteArray) : Option (Sum Zt15 Zt15) :=
  tlv_Get_s0 b_0 (fun a0 a1 a2 a3 => (tlv_Get_l0 FUEL a0 a1 a2 a3).bind fun e => (Sum.elim (fun (we : Zt20) => tlv_Get_s2 we.1 we.2.1 we.2.2.1 we.2.2.2 (fun a0 a1 a2 => some (.inl (a0, a1, a2)))) (fun (we : Zt10) => tlv_Get_s3 we (fun a0 a1 a2 => some (.inr (a0, a1, a2)))) e))
end Groat
set_option linter.unusedVariables false
set_option linter.unusedSimpArgs false
set_option maxRecDepth 100000
namespace Groat
open Go Go.Ref
def spec_Check_s0 {R : Type} (s_0 : Zt12) (kr0 : Int → Option R) : Option R :=
  (bif (decide (s_0.1 < (2 : Int))) then (kr0 (1 : Int)) else (bif (decide ((128 : Int) < s_0.1)) then (kr0 (1 : Int)) else ((class_Known s_0.2.1).bind fun r1 => (bif (!r1) then (kr0 (6 : Int)) else (bif (decide (s_0.2.2.1 < (1 : Int))) then (kr0 (3 : Int)) else (bif (decide ((3 : Int) < s_0.2.2.1)) then (kr0 (3 : Int)) else (bif (decide (s_0.2.2.2.1 < (1 : Int))) then (kr0 (5 : Int)) else (bif (decide (s_0.2.2.2.2.1 < s_0.2.2.2.1)) then (kr0 (5 : Int)) else (bif (decide ((999 : Int) < s_0.2.2.2.2.1)) then (kr0 (5 : Int)) else (bif (decide (s_0.2.2.1 = (1 : Int))) then (bif (!(decide (s_0.2.2.2.1 = s_0.2.2.2.2.1))) then (kr0 (5 : Int)) else (bif (!(decide (s_0.2.2.1 = (1 : Int)))) then ((prefix_Most s_0.2.2.1).bind fun r2 => (bif (decide (r2 < s_0.2.2.2.2.1)) then (kr0 (5 : Int)) else (bif (decide (s_0.2.2.1 = (1 : Int))) then (bif (decide (s_0.2.1 = (6 : Int))) then (kr0 (13 : Int)) else (kr0 (0 : Int))) else (kr0 (0 : Int))))) else (bif (decide (s_0.2.2.1 = (1 : Int))) then (bif (decide (s_0.2.1 = (6 : Int))) then (kr0 (13 : Int)) else (kr0 (0 : Int))) else (kr0 (0 : Int))))) else (bif (!(decide (s_0.2.2.1 = (1 : Int)))) then ((prefix_Most s_0.2.2.1).bind fun r3 => (bif (decide (r3 < s_0.2.2.2.2.1)) then (kr0 (5 : Int)) else (bif (decide (s_0.2.2.1 = (1 : Int))) then (bif (decide (s_0.2.1 = (6 : Int))) then (kr0 (13 : Int)) else (kr0 (0 : Int))) else (kr0 (0 : Int))))) else (bif (decide (s_0.2.2.1 = (1 : Int))) then (bif (decide (s_0.2.1 = (6 : Int))) then (kr0 (13 : Int)) else (kr0 (0 : Int))) else (kr0 (0 : Int))))))))))))))
theorem spec_Check_s0_bind {R S : Type} (F : R → Option S) (s_0 : Zt12) (kr0 : Int → Option R) : (spec_Check_s0 s_0 kr0).bind F = spec_Check_s0 s_0 (fun a0 => (kr0 a0).bind F) := by
  simp only [spec_Check_s0, cond_bind, within_bind, none_bind, some_bind, sum_bind, bind_bind]
def spec_Check (s_0 : Zt12) : Option Int :=
  spec_Check_s0 s_0 (fun a0 => some a0)
def spec_classes_s0 {R : Type} (a_0 : Int) (b_1 : Int) (kr0 : Bool → Option R) : Option R :=
  (bif (decide (a_0 = (5 : Int))) then (kr0 true) else (bif (decide (a_0 = (6 : Int))) then (kr0 (decide (a_0 = b_1))) else (bif (decide (b_1 = (6 : Int))) then (kr0 (decide (a_0 = b_1))) else ((class_Wider a_0 b_1).bind fun r1 => (kr0 r1)))))
theorem spec_classes_s0_bind {R S : Type} (F : R → Option S) (a_0 : Int) (b_1 : Int) (kr0 : Bool → Option R) : (spec_classes_s0 a_0 b_1 kr0).bind F = spec_classes_s0 a_0 b_1 (fun a0 => (kr0 a0).bind F) := by
  simp only [spec_classes_s0, cond_bind, within_bind, none_bind, some_bind, sum_bind, bind_bind]
def spec_classes (a_0 : Int) (b_1 : Int) : Option Bool :=
  spec_classes_s0 a_0 b_1 (fun a0 => some a0)
def spec_Wider_s0 {R : Type} (a_0 : Zt12) (b_1 : Zt12) (kr0 : Bool → Option R) : Option R :=
  ((spec_Check a_0).bind fun r1 => (bif (decide (r1 = (0 : Int))) then ((spec_Check b_1).bind fun r2 => (bif (decide (r2 = (0 : Int))) then (bif (decide (a_0.2.2.2.1 ≤ b_1.2.2.2.1)) then (bif (decide (b_1.2.2.2.2.1 ≤ a_0.2.2.2.2.1)) then ((spec_classes a_0.2.1 b_1.2.1).bind fun r3 => (kr0 r3)) else (kr0 false)) else (kr0 false)) else (kr0 false))) else (kr0 false)))
theorem spec_Wider_s0_bind {R S : Type} (F : R → Option S) (a_0 : Zt12) (b_1 : Zt12) (kr0 : Bool → Option R) : (spec_Wider_s0 a_0 b_1 kr0).bind F = spec_Wider_s0 a_0 b_1 (fun a0 => (kr0 a0).bind F) := by
  simp only [spec_Wider_s0, cond_bind, within_bind, none_bind, some_bind, sum_bind, bind_bind]
def spec_Wider (a_0 : Zt12) (b_1 : Zt12) : Option Bool :=
  spec_Wider_s0 a_0 b_1 (fun a0 => some a0)
def spec_Value_s0 {R : Type} (s_0 : Zt12) (text_1 : ByteArray) (kr0 : Int → Option R) : Option R :=
  ((spec_Check s_0).bind fun r1 => (bif (!(decide (r1 = (0 : Int)))) then (kr0 (1 : Int)) else (bif (decide (((text_1).size : Int) < s_0.2.2.2.1)) then (kr0 (5 : Int)) else (bif (decide (s_0.2.2.2.2.1 < ((text_1).size : Int))) then (kr0 (5 : Int)) else ((class_First s_0.2.1 text_1).bind fun r2 => (bif (decide ((0 : Int) ≤ r2)) then (kr0 (6 : Int)) else (bif (decide (s_0.2.1 = (6 : Int))) then ((tlv_Get text_1).bind fun r3 => (Sum.elim (fun (wr3 : Zt15) => (bif (!(decide (wr3.2.1 = (0 : Int)))) then (kr0 (13 : Int)) else (kr0 (0 : Int)))) (fun (wr3 : Zt15) => (bif (!(decide (wr3.2.1 = (0 : Int)))) then (kr0 (13 : Int)) else (kr0 (0 : Int)))) r3)) else (kr0 (0 : Int)))))))))
theorem spec_Value_s0_bind {R S : Type} (F : R → Option S) (s_0 : Zt12) (text_1 : ByteArray) (kr0 : Int → Option R) : (spec_Value_s0 s_0 text_1 kr0).bind F = spec_Value_s0 s_0 text_1 (fun a0 => (kr0 a0).bind F) := by
  simp only [spec_Value_s0, cond_bind, within_bind, none_bind, some_bind, sum_bind, bind_bind]
def spec_Value (s_0 : Zt12) (text_1 : ByteArray) : Option Int :=
  spec_Value_s0 s_0 text_1 (fun a0 => some a0)
end Groat
set_option linter.unusedVariables false
set_option linter.unusedSimpArgs false
set_option maxRecDepth 100000
namespace Groat
open Go Go.Ref
end Groat
set_option linter.unusedVariables false
set_option linter.unusedSimpArgs false
set_option maxRecDepth 100000
namespace Groat
open Go Go.Ref
def schema_Check_s0 {R : Type} (s_0 : Zt17) (kr0 : Int → Int → Option R) (go0 : Zt14 → Int → Int → Zt17 → Option R) : Option R :=
  (bif (!(decide (s_0.1 = (1 : Int)))) then (bif (!(decide (s_0.1 = (2 : Int)))) then (kr0 (1 : Int) (-1 : Int)) else (bif (decide (s_0.2.1 < (0 : Int))) then (kr0 (7 : Int) (-1 : Int)) else (bif (decide ((9 : Int) < s_0.2.1)) then (kr0 (7 : Int) (-1 : Int)) else (go0 s_0.2.2.1 ((List.length s_0.2.2.1) : Int) (0 : Int) s_0)))) else (bif (decide (s_0.2.1 < (0 : Int))) then (kr0 (7 : Int) (-1 : Int)) else (bif (decide ((9 : Int) < s_0.2.1)) then (kr0 (7 : Int) (-1 : Int)) else (go0 s_0.2.2.1 ((List.length s_0.2.2.1) : Int) (0 : Int) s_0))))
theorem schema_Check_s0_bind {R S : Type} (F : R → Option S) (s_0 : Zt17) (kr0 : Int → Int → Option R) (go0 : Zt14 → Int → Int → Zt17 → Option R) : (schema_Check_s0 s_0 kr0 go0).bind F = schema_Check_s0 s_0 (fun a0 a1 => (kr0 a0 a1).bind F) (fun a0 a1 a2 a3 => (go0 a0 a1 a2 a3).bind F) := by
  simp only [schema_Check_s0, cond_bind, within_bind, none_bind, some_bind, sum_bind, bind_bind]
def schema_Check_s1 {R : Type} (t26 : Zt14) (t27 : Int) (t28 : Int) (bt1 : Zt17) (ex0_0 : Int → Int → Option R) (nx0 : Zt14 → Int → Int → Zt17 → Option R) (ex0_1 : Option R) : Option R :=
  (bif (decide (t28 < t27)) then (within t28 (List.length t26) ((spec_Check (List.getD t26 (t28).toNat ((0 : Int), (0 : Int), (0 : Int), (0 : Int), (0 : Int), ()))).bind fun r1 => (bif (!(decide (r1 = (0 : Int)))) then (ex0_0 r1 t28) else (bif (decide ((0 : Int) < t28)) then (within (IntKind.i64.wrap (t28 - (1 : Int))) (List.length bt1.2.2.1) (bif (decide ((List.getD t26 (t28).toNat ((0 : Int), (0 : Int), (0 : Int), (0 : Int), (0 : Int), ())).1 ≤ (List.getD bt1.2.2.1 ((IntKind.i64.wrap (t28 - (1 : Int)))).toNat ((0 : Int), (0 : Int), (0 : Int), (0 : Int), (0 : Int), ())).1)) then (ex0_0 (11 : Int) t28) else (nx0 t26 t27 (IntKind.i64.wrap (t28 + (1 : Int))) bt1))) else (nx0 t26 t27 (IntKind.i64.wrap (t28 + (1 : Int))) bt1))))) else (ex0_1))
theorem schema_Check_s1_bind {R S : Type} (F : R → Option S) (t26 : Zt14) (t27 : Int) (t28 : Int) (bt1 : Zt17) (ex0_0 : Int → Int → Option R) (nx0 : Zt14 → Int → Int → Zt17 → Option R) (ex0_1 : Option R) : (schema_Check_s1 t26 t27 t28 bt1 ex0_0 nx0 ex0_1).bind F = schema_Check_s1 t26 t27 t28 bt1 (fun a0 a1 => (ex0_0 a0 a1).bind F) (fun a0 a1 a2 a3 => (nx0 a0 a1 a2 a3).bind F) ((ex0_1).bind F) := by
  simp only [schema_Check_s1, cond_bind, within_bind, none_bind, some_bind, sum_bind, bind_bind]
def schema_Check_s2 {R : Type} (t2 : Int) (t3 : Int) (kr0 : Int → Int → Option R) : Option R :=
  (kr0 t2 t3)
theorem schema_Check_s2_bind {R S : Type} (F : R → Option S) (t2 : Int) (t3 : Int) (kr0 : Int → Int → Option R) : (schema_Check_s2 t2 t3 kr0).bind F = schema_Check_s2 t2 t3 (fun a0 a1 => (kr0 a0 a1).bind F) := by
  simp only [schema_Check_s2, cond_bind, within_bind, none_bind, some_bind, sum_bind, bind_bind]
def schema_Check_s3 {R : Type}  (kr0 : Int → Int → Option R) : Option R :=
  (kr0 (0 : Int) (0 : Int))
theorem schema_Check_s3_bind {R S : Type} (F : R → Option S)  (kr0 : Int → Int → Option R) : (schema_Check_s3 kr0).bind F = schema_Check_s3 (fun a0 a1 => (kr0 a0 a1).bind F) := by
  simp only [schema_Check_s3, cond_bind, within_bind, none_bind, some_bind, sum_bind, bind_bind]
def schema_Check_l0 : Nat → Zt14 → Int → Int → Zt17 → Option (Sum (Int × Int) Unit)
  | 0, _, _, _, _ => none
  | k + 1, v0, v1, v2, v3 => schema_Check_s1 v0 v1 v2 v3 (fun a0 a1 => some (.inl (a0, a1))) (fun a0 a1 a2 a3 => schema_Check_l0 k a0 a1 a2 a3) (some (.inr ()))
def schema_Check (s_0 : Zt17) : Option (Int × Int) :=
  schema_Check_s0 s_0 (fun a0 a1 => some (a0, a1)) (fun a0 a1 a2 a3 => (schema_Check_l0 FUEL a0 a1 a2 a3).bind fun e => (Sum.elim (fun (we : (Int × Int)) => schema_Check_s2 we.1 we.2 (fun a0 a1 => some (a0, a1))) (fun (we : Unit) => schema_Check_s3 (fun a0 a1 => some (a0, a1))) e))
def schema_Find_s0 {R : Type} (s_0 : Zt17) (no_1 : Int) (go0 : Int → Zt14 → Int → Int → Zt12 → Option R) : Option R :=
  (go0 no_1 s_0.2.2.1 ((List.length s_0.2.2.1) : Int) (0 : Int) ((0 : Int), (0 : Int), (0 : Int), (0 : Int), (0 : Int), ()))
theorem schema_Find_s0_bind {R S : Type} (F : R → Option S) (s_0 : Zt17) (no_1 : Int) (go0 : Int → Zt14 → Int → Int → Zt12 → Option R) : (schema_Find_s0 s_0 no_1 go0).bind F = schema_Find_s0 s_0 no_1 (fun a0 a1 a2 a3 a4 => (go0 a0 a1 a2 a3 a4).bind F) := by
  simp only [schema_Find_s0, cond_bind, within_bind, none_bind, some_bind, sum_bind, bind_bind]
def schema_Find_s1 {R : Type} (no_1 : Int) (t9 : Zt14) (t10 : Int) (t11 : Int) (bt4 : Zt12) (ex0_0 : Bool → Zt12 → Option R) (nx0 : Int → Zt14 → Int → Int → Zt12 → Option R) (ex0_1 : Zt12 → Option R) : Option R :=
  (bif (decide (t11 < t10)) then (within t11 (List.length t9) (bif (decide ((List.getD t9 (t11).toNat ((0 : Int), (0 : Int), (0 : Int), (0 : Int), (0 : Int), ())).1 = no_1)) then (ex0_0 true (List.getD t9 (t11).toNat ((0 : Int), (0 : Int), (0 : Int), (0 : Int), (0 : Int), ()))) else (nx0 no_1 t9 t10 (IntKind.i64.wrap (t11 + (1 : Int))) bt4))) else (ex0_1 bt4))
theorem schema_Find_s1_bind {R S : Type} (F : R → Option S) (no_1 : Int) (t9 : Zt14) (t10 : Int) (t11 : Int) (bt4 : Zt12) (ex0_0 : Bool → Zt12 → Option R) (nx0 : Int → Zt14 → Int → Int → Zt12 → Option R) (ex0_1 : Zt12 → Option R) : (schema_Find_s1 no_1 t9 t10 t11 bt4 ex0_0 nx0 ex0_1).bind F = schema_Find_s1 no_1 t9 t10 t11 bt4 (fun a0 a1 => (ex0_0 a0 a1).bind F) (fun a0 a1 a2 a3 a4 => (nx0 a0 a1 a2 a3 a4).bind F) (fun a0 => (ex0_1 a0).bind F) := by
  simp only [schema_Find_s1, cond_bind, within_bind, none_bind, some_bind, sum_bind, bind_bind]
def schema_Find_s2 {R : Type} (t5 : Bool) (bt4 : Zt12) (kr0 : Zt12 → Bool → Option R) : Option R :=
  (kr0 bt4 t5)
theorem schema_Find_s2_bind {R S : Type} (F : R → Option S) (t5 : Bool) (bt4 : Zt12) (kr0 : Zt12 → Bool → Option R) : (schema_Find_s2 t5 bt4 kr0).bind F = schema_Find_s2 t5 bt4 (fun a0 a1 => (kr0 a0 a1).bind F) := by
  simp only [schema_Find_s2, cond_bind, within_bind, none_bind, some_bind, sum_bind, bind_bind]
def schema_Find_s3 {R : Type} (bt4 : Zt12) (kr0 : Zt12 → Bool → Option R) : Option R :=
  (kr0 ((0 : Int), (0 : Int), (0 : Int), (0 : Int), (0 : Int), ()) false)
theorem schema_Find_s3_bind {R S : Type} (F : R → Option S) (bt4 : Zt12) (kr0 : Zt12 → Bool → Option R) : (schema_Find_s3 bt4 kr0).bind F = schema_Find_s3 bt4 (fun a0 a1 => (kr0 a0 a1).bind F) := by
  simp only [schema_Find_s3, cond_bind, within_bind, none_bind, some_bind, sum_bind, bind_bind]
def schema_Find_l0 : Nat → Int → Zt14 → Int → Int → Zt12 → Option (Sum (Bool × Zt12) Zt12)
  | 0, _, _, _, _, _ => none
  | k + 1, v0, v1, v2, v3, v4 => schema_Find_s1 v0 v1 v2 v3 v4 (fun a0 a1 => some (.inl (a0, a1))) (fun a0 a1 a2 a3 a4 => schema_Find_l0 k a0 a1 a2 a3 a4) (fun a0 => some (.inr a0))
def schema_Find (s_0 : Zt17) (no_1 : Int) : Option (Zt12 × Bool) :=
  schema_Find_s0 s_0 no_1 (fun a0 a1 a2 a3 a4 => (schema_Find_l0 FUEL a0 a1 a2 a3 a4).bind fun e => (Sum.elim (fun (we : (Bool × Zt12)) => schema_Find_s2 we.1 we.2 (fun a0 a1 => some (a0, a1))) (fun (we : Zt12) => schema_Find_s3 we (fun a0 a1 => some (a0, a1))) e))
end Groat
set_option linter.unusedVariables false
set_option linter.unusedSimpArgs false
set_option maxRecDepth 100000
namespace Groat
open Go Go.Ref
def r14_both_s0 {R : Type}  (kr0 : Zt2 → Option R) : Option R :=
  (kr0 ([([(2 : Int), (1 : Int), (2 : Int), (12 : Int), (19 : Int), (1 : Int), (2 : Int), (12 : Int), (19 : Int)] : List Int), ([(3 : Int), (1 : Int), (1 : Int), (6 : Int), (6 : Int), (1 : Int), (1 : Int), (6 : Int), (6 : Int)] : List Int), ([(4 : Int), (1 : Int), (1 : Int), (12 : Int), (12 : Int), (1 : Int), (1 : Int), (12 : Int), (12 : Int)] : List Int), ([(7 : Int), (1 : Int), (1 : Int), (10 : Int), (10 : Int), (1 : Int), (1 : Int), (10 : Int), (10 : Int)] : List Int), ([(11 : Int), (1 : Int), (1 : Int), (6 : Int), (6 : Int), (1 : Int), (1 : Int), (6 : Int), (6 : Int)] : List Int), ([(12 : Int), (1 : Int), (1 : Int), (6 : Int), (6 : Int), (1 : Int), (1 : Int), (12 : Int), (12 : Int)] : List Int), ([(13 : Int), (1 : Int), (1 : Int), (4 : Int), (4 : Int), (0 : Int), (0 : Int), (0 : Int), (0 : Int)] : List Int), ([(14 : Int), (1 : Int), (1 : Int), (4 : Int), (4 : Int), (1 : Int), (1 : Int), (4 : Int), (4 : Int)] : List Int), ([(18 : Int), (1 : Int), (1 : Int), (4 : Int), (4 : Int), (0 : Int), (0 : Int), (0 : Int), (0 : Int)] : List Int), ([(22 : Int), (1 : Int), (1 : Int), (3 : Int), (3 : Int), (3 : Int), (1 : Int), (12 : Int), (12 : Int)] : List Int), ([(23 : Int), (1 : Int), (1 : Int), (3 : Int), (3 : Int), (1 : Int), (1 : Int), (3 : Int), (3 : Int)] : List Int), ([(26 : Int), (0 : Int), (0 : Int), (0 : Int), (0 : Int), (1 : Int), (1 : Int), (4 : Int), (4 : Int)] : List Int), ([(32 : Int), (1 : Int), (2 : Int), (1 : Int), (11 : Int), (1 : Int), (2 : Int), (1 : Int), (11 : Int)] : List Int), ([(35 : Int), (4 : Int), (2 : Int), (1 : Int), (37 : Int), (4 : Int), (2 : Int), (1 : Int), (37 : Int)] : List Int), ([(37 : Int), (3 : Int), (1 : Int), (12 : Int), (12 : Int), (3 : Int), (1 : Int), (12 : Int), (12 : Int)] : List Int), ([(38 : Int), (3 : Int), (1 : Int), (6 : Int), (6 : Int), (3 : Int), (1 : Int), (6 : Int), (6 : Int)] : List Int), ([(39 : Int), (3 : Int), (1 : Int), (2 : Int), (2 : Int), (1 : Int), (1 : Int), (3 : Int), (3 : Int)] : List Int), ([(41 : Int), (4 : Int), (1 : Int), (8 : Int), (8 : Int), (4 : Int), (1 : Int), (8 : Int), (8 : Int)] : List Int), ([(42 : Int), (4 : Int), (1 : Int), (15 : Int), (15 : Int), (4 : Int), (1 : Int), (15 : Int), (15 : Int)] : List Int), ([(43 : Int), (4 : Int), (1 : Int), (40 : Int), (40 : Int), (4 : Int), (2 : Int), (1 : Int), (99 : Int)] : List Int), ([(48 : Int), (4 : Int), (3 : Int), (1 : Int), (999 : Int), (4 : Int), (3 : Int), (1 : Int), (999 : Int)] : List Int), ([(49 : Int), (1 : Int), (1 : Int), (3 : Int), (3 : Int), (1 : Int), (1 : Int), (3 : Int), (3 : Int)] : List Int), ([(52 : Int), (5 : Int), (1 : Int), (8 : Int), (8 : Int), (5 : Int), (1 : Int), (8 : Int), (8 : Int)] : List Int), ([(55 : Int), (6 : Int), (3 : Int), (1 : Int), (255 : Int), (6 : Int), (3 : Int), (1 : Int), (255 : Int)] : List Int), ([(64 : Int), (5 : Int), (1 : Int), (8 : Int), (8 : Int), (5 : Int), (1 : Int), (8 : Int), (8 : Int)] : List Int), ([(70 : Int), (1 : Int), (1 : Int), (3 : Int), (3 : Int), (1 : Int), (1 : Int), (3 : Int), (3 : Int)] : List Int), ([(90 : Int), (1 : Int), (1 : Int), (42 : Int), (42 : Int), (0 : Int), (0 : Int), (0 : Int), (0 : Int)] : List Int), ([(102 : Int), (4 : Int), (2 : Int), (1 : Int), (28 : Int), (4 : Int), (2 : Int), (1 : Int), (28 : Int)] : List Int), ([(128 : Int), (5 : Int), (1 : Int), (8 : Int), (8 : Int), (5 : Int), (1 : Int), (8 : Int), (8 : Int)] : List Int)] : List (List Int)))
theorem r14_both_s0_bind {R S : Type} (F : R → Option S)  (kr0 : Zt2 → Option R) : (r14_both_s0 kr0).bind F = r14_both_s0 (fun a0 => (kr0 a0).bind F) := by
  simp only [r14_both_s0, cond_bind, within_bind, none_bind, some_bind, sum_bind, bind_bind]
def r14_both  : Option Zt2 :=
  r14_both_s0 (fun a0 => some a0)
def r14_Schema_s0 {R : Type} (which_0 : Int) (go0 : Int → Zt2 → Int → Zt17 → Zt17 → Option R) : Option R :=
  ((r14_both).bind fun r1 => (go0 which_0 r1 (0 : Int) ((0 : Int), (0 : Int), ([] : List Zt12), ()) ((IntKind.i64.wrap (which_0 + (1 : Int))), which_0, ([] : List Zt12), ())))
theorem r14_Schema_s0_bind {R S : Type} (F : R → Option S) (which_0 : Int) (go0 : Int → Zt2 → Int → Zt17 → Zt17 → Option R) : (r14_Schema_s0 which_0 go0).bind F = r14_Schema_s0 which_0 (fun a0 a1 a2 a3 a4 => (go0 a0 a1 a2 a3 a4).bind F) := by
  simp only [r14_Schema_s0, cond_bind, within_bind, none_bind, some_bind, sum_bind, bind_bind]
def r14_Schema_s1 {R : Type} (which_0 : Int) (t4 : Zt2) (t5 : Int) (bt2 : Zt17) (bt3 : Zt17) (nx0 : Int → Zt2 → Int → Zt17 → Zt17 → Option R) (ex0_0 : Zt17 → Zt17 → Option R) : Option R :=
  (bif (decide (t5 < ((List.length t4) : Int))) then (within t5 (List.length t4) (bif (decide ((0 : Int) ≤ (IntKind.i64.wrap ((5 : Int) + (IntKind.i64.wrap ((4 : Int) * which_0)))))) then (bif (decide ((IntKind.i64.wrap ((5 : Int) + (IntKind.i64.wrap ((4 : Int) * which_0)))) ≤ (((List.length (List.getD t4 (t5).toNat ([] : List Int))) : Nat) : Int))) then (bif (decide ((0 : Int) ≤ (IntKind.i64.wrap ((1 : Int) + (IntKind.i64.wrap ((4 : Int) * which_0)))))) then (bif (decide ((IntKind.i64.wrap ((1 : Int) + (IntKind.i64.wrap ((4 : Int) * which_0)))) ≤ ((((IntKind.i64.wrap ((5 : Int) + (IntKind.i64.wrap ((4 : Int) * which_0))))).toNat : Nat) : Int))) then (within (0 : Int) (List.length (List.drop ((IntKind.i64.wrap ((1 : Int) + (IntKind.i64.wrap ((4 : Int) * which_0))))).toNat (List.take ((IntKind.i64.wrap ((5 : Int) + (IntKind.i64.wrap ((4 : Int) * which_0))))).toNat (List.getD t4 (t5).toNat ([] : List Int))))) (bif (decide ((0 : Int) < (List.getD (List.drop ((IntKind.i64.wrap ((1 : Int) + (IntKind.i64.wrap ((4 : Int) * which_0))))).toNat (List.take ((IntKind.i64.wrap ((5 : Int) + (IntKind.i64.wrap ((4 : Int) * which_0))))).toNat (List.getD t4 (t5).toNat ([] : List Int)))) ((0 : Int)).toNat (0 : Int)))) then (within t5 (List.length t4) (within (0 : Int) (List.length (List.getD t4 (t5).toNat ([] : List Int))) (within (0 : Int) (List.length (List.drop ((IntKind.i64.wrap ((1 : Int) + (IntKind.i64.wrap ((4 : Int) * which_0))))).toNat (List.take ((IntKind.i64.wrap ((5 : Int) + (IntKind.i64.wrap ((4 : Int) * which_0))))).toNat (List.getD t4 (t5).toNat ([] : List Int))))) (within (1 : Int) (List.length (List.drop ((IntKind.i64.wrap ((1 : Int) + (IntKind.i64.wrap ((4 : Int) * which_0))))).toNat (List.take ((IntKind.i64.wrap ((5 : Int) + (IntKind.i64.wrap ((4 : Int) * which_0))))).toNat (List.getD t4 (t5).toNat ([] : List Int))))) (within (2 : Int) (List.length (List.drop ((IntKind.i64.wrap ((1 : Int) + (IntKind.i64.wrap ((4 : Int) * which_0))))).toNat (List.take ((IntKind.i64.wrap ((5 : Int) + (IntKind.i64.wrap ((4 : Int) * which_0))))).toNat (List.getD t4 (t5).toNat ([] : List Int))))) (within (3 : Int) (List.length (List.drop ((IntKind.i64.wrap ((1 : Int) + (IntKind.i64.wrap ((4 : Int) * which_0))))).toNat (List.take ((IntKind.i64.wrap ((5 : Int) + (IntKind.i64.wrap ((4 : Int) * which_0))))).toNat (List.getD t4 (t5).toNat ([] : List Int))))) (bif (decide (((List.length bt3.2.2.1) + (List.length ([((List.getD (List.getD t4 (t5).toNat ([] : List Int)) ((0 : Int)).toNat (0 : Int)), (List.getD (List.drop ((IntKind.i64.wrap ((1 : Int) + (IntKind.i64.wrap ((4 : Int) * which_0))))).toNat (List.take ((IntKind.i64.wrap ((5 : Int) + (IntKind.i64.wrap ((4 : Int) * which_0))))).toNat (List.getD t4 (t5).toNat ([] : List Int)))) ((0 : Int)).toNat (0 : Int)), (List.getD (List.drop ((IntKind.i64.wrap ((1 : Int) + (IntKind.i64.wrap ((4 : Int) * which_0))))).toNat (List.take ((IntKind.i64.wrap ((5 : Int) + (IntKind.i64.wrap ((4 : Int) * which_0))))).toNat (List.getD t4 (t5).toNat ([] : List Int)))) ((1 : Int)).toNat (0 : Int)), (List.getD (List.drop ((IntKind.i64.wrap ((1 : Int) + (IntKind.i64.wrap ((4 : Int) * which_0))))).toNat (List.take ((IntKind.i64.wrap ((5 : Int) + (IntKind.i64.wrap ((4 : Int) * which_0))))).toNat (List.getD t4 (t5).toNat ([] : List Int)))) ((2 : Int)).toNat (0 : Int)), (List.getD (List.drop ((IntKind.i64.wrap ((1 : Int) + (IntKind.i64.wrap ((4 : Int) * which_0))))).toNat (List.take ((IntKind.i64.wrap ((5 : Int) + (IntKind.i64.wrap ((4 : Int) * which_0))))).toNat (List.getD t4 (t5).toNat ([] : List Int)))) ((3 : Int)).toNat (0 : Int)), ())] : List Zt12))) * 40 ≤ 140737488355328)) then (nx0 which_0 t4 (IntKind.i64.wrap (t5 + (1 : Int))) bt2 (bt3.1, bt3.2.1, (bt3.2.2.1 ++ ([((List.getD (List.getD t4 (t5).toNat ([] : List Int)) ((0 : Int)).toNat (0 : Int)), (List.getD (List.drop ((IntKind.i64.wrap ((1 : Int) + (IntKind.i64.wrap ((4 : Int) * which_0))))).toNat (List.take ((IntKind.i64.wrap ((5 : Int) + (IntKind.i64.wrap ((4 : Int) * which_0))))).toNat (List.getD t4 (t5).toNat ([] : List Int)))) ((0 : Int)).toNat (0 : Int)), (List.getD (List.drop ((IntKind.i64.wrap ((1 : Int) + (IntKind.i64.wrap ((4 : Int) * which_0))))).toNat (List.take ((IntKind.i64.wrap ((5 : Int) + (IntKind.i64.wrap ((4 : Int) * which_0))))).toNat (List.getD t4 (t5).toNat ([] : List Int)))) ((1 : Int)).toNat (0 : Int)), (List.getD (List.drop ((IntKind.i64.wrap ((1 : Int) + (IntKind.i64.wrap ((4 : Int) * which_0))))).toNat (List.take ((IntKind.i64.wrap ((5 : Int) + (IntKind.i64.wrap ((4 : Int) * which_0))))).toNat (List.getD t4 (t5).toNat ([] : List Int)))) ((2 : Int)).toNat (0 : Int)), (List.getD (List.drop ((IntKind.i64.wrap ((1 : Int) + (IntKind.i64.wrap ((4 : Int) * which_0))))).toNat (List.take ((IntKind.i64.wrap ((5 : Int) + (IntKind.i64.wrap ((4 : Int) * which_0))))).toNat (List.getD t4 (t5).toNat ([] : List Int)))) ((3 : Int)).toNat (0 : Int)), ())] : List Zt12)), ())) else none))))))) else (nx0 which_0 t4 (IntKind.i64.wrap (t5 + (1 : Int))) bt2 bt3))) else none) else none) else none) else none)) else (ex0_0 bt2 bt3))
theorem r14_Schema_s1_bind {R S : Type} (F : R → Option S) (which_0 : Int) (t4 : Zt2) (t5 : Int) (bt2 : Zt17) (bt3 : Zt17) (nx0 : Int → Zt2 → Int → Zt17 → Zt17 → Option R) (ex0_0 : Zt17 → Zt17 → Option R) : (r14_Schema_s1 which_0 t4 t5 bt2 bt3 nx0 ex0_0).bind F = r14_Schema_s1 which_0 t4 t5 bt2 bt3 (fun a0 a1 a2 a3 a4 => (nx0 a0 a1 a2 a3 a4).bind F) (fun a0 a1 => (ex0_0 a0 a1).bind F) := by
  simp only [r14_Schema_s1, cond_bind, within_bind, none_bind, some_bind, sum_bind, bind_bind]
def r14_Schema_s2 {R : Type} (bt2 : Zt17) (bt3 : Zt17) (kr0 : Zt17 → Option R) : Option R :=
  (kr0 bt3)
theorem r14_Schema_s2_bind {R S : Type} (F : R → Option S) (bt2 : Zt17) (bt3 : Zt17) (kr0 : Zt17 → Option R) : (r14_Schema_s2 bt2 bt3 kr0).bind F = r14_Schema_s2 bt2 bt3 (fun a0 => (kr0 a0).bind F) := by
  simp only [r14_Schema_s2, cond_bind, within_bind, none_bind, some_bind, sum_bind, bind_bind]
def r14_Schema_l0 : Nat → Int → Zt2 → Int → Zt17 → Zt17 → Option (Zt17 × Zt17)
  | 0, _, _, _, _, _ => none
  | k + 1, v0, v1, v2, v3, v4 => r14_Schema_s1 v0 v1 v2 v3 v4 (fun a0 a1 a2 a3 a4 => r14_Schema_l0 k a0 a1 a2 a3 a4) (fun a0 a1 => some (a0, a1))
def r14_Schema (which_0 : Int) : Option Zt17 :=
  r14_Schema_s0 which_0 (fun a0 a1 a2 a3 a4 => (r14_Schema_l0 FUEL a0 a1 a2 a3 a4).bind fun e => r14_Schema_s2 e.1 e.2 (fun a0 => some a0))
end Groat
set_option linter.unusedVariables false
set_option linter.unusedSimpArgs false
set_option maxRecDepth 100000
namespace Groat
open Go Go.Ref
def r19_Copy_s0 {R : Type} (l_0 : Zt13) (kr0 : Zt13 → Option R) : Option R :=
  (bif (decide (((List.length ([] : List Zt8)) + (List.length l_0)) * 32 ≤ 140737488355328)) then (kr0 (([] : List Zt8) ++ l_0)) else none)
theorem r19_Copy_s0_bind {R S : Type} (F : R → Option S) (l_0 : Zt13) (kr0 : Zt13 → Option R) : (r19_Copy_s0 l_0 kr0).bind F = r19_Copy_s0 l_0 (fun a0 => (kr0 a0).bind F) := by
  simp only [r19_Copy_s0, cond_bind, within_bind, none_bind, some_bind, sum_bind, bind_bind]
def r19_Copy (l_0 : Zt13) : Option Zt13 :=
  r19_Copy_s0 l_0 (fun a0 => some a0)
def r19_find_s0 {R : Type} (l_0 : Zt13) (n_1 : Int) (from_2 : ByteArray) (go0 : Zt13 → Int → ByteArray → Int → Option R) : Option R :=
  (go0 l_0 n_1 from_2 (0 : Int))
theorem r19_find_s0_bind {R S : Type} (F : R → Option S) (l_0 : Zt13) (n_1 : Int) (from_2 : ByteArray) (go0 : Zt13 → Int → ByteArray → Int → Option R) : (r19_find_s0 l_0 n_1 from_2 go0).bind F = r19_find_s0 l_0 n_1 from_2 (fun a0 a1 a2 a3 => (go0 a0 a1 a2 a3).bind F) := by
  simp only [r19_find_s0, cond_bind, within_bind, none_bind, some_bind, sum_bind, bind_bind]
def r19_find_s1 {R : Type} (l_0 : Zt13) (n_1 : Int) (from_2 : ByteArray) (t7 : Int) (ex0_0 : Int → Option R) (nx0 : Zt13 → Int → ByteArray → Int → Option R) (ex0_1 : Option R) : Option R :=
  (bif (decide (t7 < n_1)) then (within t7 (List.length l_0) (bif (decide ((List.getD l_0 (t7).toNat ((bs []), (bs []), ())).1 = from_2)) then (ex0_0 t7) else (nx0 l_0 n_1 from_2 (IntKind.i64.wrap (t7 + (1 : Int)))))) else (ex0_1))
theorem r19_find_s1_bind {R S : Type} (F : R → Option S) (l_0 : Zt13) (n_1 : Int) (from_2 : ByteArray) (t7 : Int) (ex0_0 : Int → Option R) (nx0 : Zt13 → Int → ByteArray → Int → Option R) (ex0_1 : Option R) : (r19_find_s1 l_0 n_1 from_2 t7 ex0_0 nx0 ex0_1).bind F = r19_find_s1 l_0 n_1 from_2 t7 (fun a0 => (ex0_0 a0).bind F) (fun a0 a1 a2 a3 => (nx0 a0 a1 a2 a3).bind F) ((ex0_1).bind F) := by
  simp only [r19_find_s1, cond_bind, within_bind, none_bind, some_bind, sum_bind, bind_bind]
def r19_find_s2 {R : Type} (t6 : Int) (kr0 : Int → Option R) : Option R :=
  (kr0 t6)
theorem r19_find_s2_bind {R S : Type} (F : R → Option S) (t6 : Int) (kr0 : Int → Option R) : (r19_find_s2 t6 kr0).bind F = r19_find_s2 t6 (fun a0 => (kr0 a0).bind F) := by
  simp only [r19_find_s2, cond_bind, within_bind, none_bind, some_bind, sum_bind, bind_bind]
def r19_find_s3 {R : Type}  (kr0 : Int → Option R) : Option R :=
  (kr0 (-1 : Int))
theorem r19_find_s3_bind {R S : Type} (F : R → Option S)  (kr0 : Int → Option R) : (r19_find_s3 kr0).bind F = r19_find_s3 (fun a0 => (kr0 a0).bind F) := by
  simp only [r19_find_s3, cond_bind, within_bind, none_bind, some_bind, sum_bind, bind_bind]
def r19_find_l0 : Nat → Zt13 → Int → ByteArray → Int → Option (Sum Int Unit)
  | 0, _, _, _, _ => none
  | k + 1, v0, v1, v2, v3 => r19_find_s1 v0 v1 v2 v3 (fun a0 => some (.inl a0)) (fun a0 a1 a2 a3 => r19_find_l0 k a0 a1 a2 a3) (some (.inr ()))
def r19_find (l_0 : Zt13) (n_1 : Int) (from_2 : ByteArray) : Option Int :=
  r19_find_s0 l_0 n_1 from_2 (fun a0 a1 a2 a3 => (r19_find_l0 FUEL a0 a1 a2 a3).bind fun e => (Sum.elim (fun (we : Int) => r19_find_s2 we (fun a0 => some a0)) (fun (we : Unit) => r19_find_s3 (fun a0 => some a0)) e))
def r19_Check_s0 {R : Type} (l_0 : Zt13) (kr0 : Int → Int → Option R) (go0 : Zt13 → Int → Option R) : Option R :=
  (bif (decide ((256 : Int) < ((List.length l_0) : Int))) then (kr0 (5 : Int) (256 : Int)) else (go0 l_0 (0 : Int)))
theorem r19_Check_s0_bind {R S : Type} (F : R → Option S) (l_0 : Zt13) (kr0 : Int → Int → Option R) (go0 : Zt13 → Int → Option R) : (r19_Check_s0 l_0 kr0 go0).bind F = r19_Check_s0 l_0 (fun a0 a1 => (kr0 a0 a1).bind F) (fun a0 a1 => (go0 a0 a1).bind F) := by
  simp only [r19_Check_s0, cond_bind, within_bind, none_bind, some_bind, sum_bind, bind_bind]
def r19_Check_s1 {R : Type} (l_0 : Zt13) (t4 : Int) (ex0_0 : Int → Int → Option R) (nx0 : Zt13 → Int → Option R) (ex0_1 : Option R) : Option R :=
  (bif (decide (t4 < ((List.length l_0) : Int))) then (within t4 (List.length l_0) ((r19_find l_0 t4 (List.getD l_0 (t4).toNat ((bs []), (bs []), ())).1).bind fun r1 => (bif (decide ((0 : Int) ≤ r1)) then (ex0_0 (10 : Int) t4) else (nx0 l_0 (IntKind.i64.wrap (t4 + (1 : Int))))))) else (ex0_1))
theorem r19_Check_s1_bind {R S : Type} (F : R → Option S) (l_0 : Zt13) (t4 : Int) (ex0_0 : Int → Int → Option R) (nx0 : Zt13 → Int → Option R) (ex0_1 : Option R) : (r19_Check_s1 l_0 t4 ex0_0 nx0 ex0_1).bind F = r19_Check_s1 l_0 t4 (fun a0 a1 => (ex0_0 a0 a1).bind F) (fun a0 a1 => (nx0 a0 a1).bind F) ((ex0_1).bind F) := by
  simp only [r19_Check_s1, cond_bind, within_bind, none_bind, some_bind, sum_bind, bind_bind]
def r19_Check_s2 {R : Type} (t2 : Int) (t3 : Int) (kr0 : Int → Int → Option R) : Option R :=
  (kr0 t2 t3)
theorem r19_Check_s2_bind {R S : Type} (F : R → Option S) (t2 : Int) (t3 : Int) (kr0 : Int → Int → Option R) : (r19_Check_s2 t2 t3 kr0).bind F = r19_Check_s2 t2 t3 (fun a0 a1 => (kr0 a0 a1).bind F) := by
  simp only [r19_Check_s2, cond_bind, within_bind, none_bind, some_bind, sum_bind, bind_bind]
def r19_Check_s3 {R : Type}  (kr0 : Int → Int → Option R) : Option R :=
  (kr0 (0 : Int) (0 : Int))
theorem r19_Check_s3_bind {R S : Type} (F : R → Option S)  (kr0 : Int → Int → Option R) : (r19_Check_s3 kr0).bind F = r19_Check_s3 (fun a0 a1 => (kr0 a0 a1).bind F) := by
  simp only [r19_Check_s3, cond_bind, within_bind, none_bind, some_bind, sum_bind, bind_bind]
def r19_Check_l0 : Nat → Zt13 → Int → Option (Sum (Int × Int) Unit)
  | 0, _, _ => none
  | k + 1, v0, v1 => r19_Check_s1 v0 v1 (fun a0 a1 => some (.inl (a0, a1))) (fun a0 a1 => r19_Check_l0 k a0 a1) (some (.inr ()))
def r19_Check (l_0 : Zt13) : Option (Int × Int) :=
  r19_Check_s0 l_0 (fun a0 a1 => some (a0, a1)) (fun a0 a1 => (r19_Check_l0 FUEL a0 a1).bind fun e => (Sum.elim (fun (we : (Int × Int)) => r19_Check_s2 we.1 we.2 (fun a0 a1 => some (a0, a1))) (fun (we : Unit) => r19_Check_s3 (fun a0 a1 => some (a0, a1))) e))
def r19_Apply_s0 {R : Type} (l_0 : Zt13) (text_1 : ByteArray) (kr0 : ByteArray → Bool → Option R) : Option R :=
  ((r19_find l_0 ((List.length l_0) : Int) text_1).bind fun r1 => (bif (decide (r1 < (0 : Int))) then (kr0 (bs []) false) else (within r1 (List.length l_0) (kr0 (List.getD l_0 (r1).toNat ((bs []), (bs []), ())).2.1 true))))
theorem r19_Apply_s0_bind {R S : Type} (F : R → Option S) (l_0 : Zt13) (text_1 : ByteArray) (kr0 : ByteArray → Bool → Option R) : (r19_Apply_s0 l_0 text_1 kr0).bind F = r19_Apply_s0 l_0 text_1 (fun a0 a1 => (kr0 a0 a1).bind F) := by
  simp only [r19_Apply_s0, cond_bind, within_bind, none_bind, some_bind, sum_bind, bind_bind]
def r19_Apply (l_0 : Zt13) (text_1 : ByteArray) : Option Zt3 :=
  r19_Apply_s0 l_0 text_1 (fun a0 a1 => some (a0, a1))
end Groat
set_option linter.unusedVariables false
set_option linter.unusedSimpArgs false
set_option maxRecDepth 100000
namespace Groat
open Go Go.Ref
def r20_Great_s0 {R : Type} (r_0 : Zt19) (kr0 : Bool → Option R) (go0 : Int → Zt19 → Option R) : Option R :=
  (bif (decide ((1200 : Int) < ((r_0.2.2.2.1).size : Int))) then (kr0 true) else (bif (decide ((300 : Int) < ((List.length r_0.2.2.2.2.1) : Int))) then (kr0 true) else (go0 (0 : Int) r_0)))
theorem r20_Great_s0_bind {R S : Type} (F : R → Option S) (r_0 : Zt19) (kr0 : Bool → Option R) (go0 : Int → Zt19 → Option R) : (r20_Great_s0 r_0 kr0 go0).bind F = r20_Great_s0 r_0 (fun a0 => (kr0 a0).bind F) (fun a0 a1 => (go0 a0 a1).bind F) := by
  simp only [r20_Great_s0, cond_bind, within_bind, none_bind, some_bind, sum_bind, bind_bind]
def r20_Great_s1 {R : Type} (t3 : Int) (bt1 : Zt19) (ex0_0 : Bool → Option R) (nx0 : Int → Zt19 → Option R) (ex0_1 : Option R) : Option R :=
  (bif (decide (t3 < ((List.length bt1.2.2.2.2.1) : Int))) then (within t3 (List.length bt1.2.2.2.2.1) (bif (decide ((1200 : Int) < (((List.getD bt1.2.2.2.2.1 (t3).toNat ((bs []), (bs []), ())).1).size : Int))) then (ex0_0 true) else (within t3 (List.length bt1.2.2.2.2.1) (bif (decide ((1200 : Int) < (((List.getD bt1.2.2.2.2.1 (t3).toNat ((bs []), (bs []), ())).2.1).size : Int))) then (ex0_0 true) else (nx0 (IntKind.i64.wrap (t3 + (1 : Int))) bt1))))) else (ex0_1))
theorem r20_Great_s1_bind {R S : Type} (F : R → Option S) (t3 : Int) (bt1 : Zt19) (ex0_0 : Bool → Option R) (nx0 : Int → Zt19 → Option R) (ex0_1 : Option R) : (r20_Great_s1 t3 bt1 ex0_0 nx0 ex0_1).bind F = r20_Great_s1 t3 bt1 (fun a0 => (ex0_0 a0).bind F) (fun a0 a1 => (nx0 a0 a1).bind F) ((ex0_1).bind F) := by
  simp only [r20_Great_s1, cond_bind, within_bind, none_bind, some_bind, sum_bind, bind_bind]
def r20_Great_s2 {R : Type} (t2 : Bool) (kr0 : Bool → Option R) : Option R :=
  (kr0 t2)
theorem r20_Great_s2_bind {R S : Type} (F : R → Option S) (t2 : Bool) (kr0 : Bool → Option R) : (r20_Great_s2 t2 kr0).bind F = r20_Great_s2 t2 (fun a0 => (kr0 a0).bind F) := by
  simp only [r20_Great_s2, cond_bind, within_bind, none_bind, some_bind, sum_bind, bind_bind]
def r20_Great_s3 {R : Type}  (kr0 : Bool → Option R) : Option R :=
  (kr0 false)
theorem r20_Great_s3_bind {R S : Type} (F : R → Option S)  (kr0 : Bool → Option R) : (r20_Great_s3 kr0).bind F = r20_Great_s3 (fun a0 => (kr0 a0).bind F) := by
  simp only [r20_Great_s3, cond_bind, within_bind, none_bind, some_bind, sum_bind, bind_bind]
def r20_Great_l0 : Nat → Int → Zt19 → Option (Sum Bool Unit)
  | 0, _, _ => none
  | k + 1, v0, v1 => r20_Great_s1 v0 v1 (fun a0 => some (.inl a0)) (fun a0 a1 => r20_Great_l0 k a0 a1) (some (.inr ()))
def r20_Great (r_0 : Zt19) : Option Bool :=
  r20_Great_s0 r_0 (fun a0 => some a0) (fun a0 a1 => (r20_Great_l0 FUEL a0 a1).bind fun e => (Sum.elim (fun (we : Bool) => r20_Great_s2 we (fun a0 => some a0)) (fun (we : Unit) => r20_Great_s3 (fun a0 => some a0)) e))
def r20_Copy_s0 {R : Type} (r_0 : Zt19) (kr0 : Zt19 → Option R) : Option R :=
  ((r19_Copy r_0.2.2.2.2.1).bind fun r1 => (kr0 (r_0.1, r_0.2.1, r_0.2.2.1, r_0.2.2.2.1, r1, ())))
theorem r20_Copy_s0_bind {R S : Type} (F : R → Option S) (r_0 : Zt19) (kr0 : Zt19 → Option R) : (r20_Copy_s0 r_0 kr0).bind F = r20_Copy_s0 r_0 (fun a0 => (kr0 a0).bind F) := by
  simp only [r20_Copy_s0, cond_bind, within_bind, none_bind, some_bind, sum_bind, bind_bind]
def r20_Copy (r_0 : Zt19) : Option Zt19 :=
  r20_Copy_s0 r_0 (fun a0 => some a0)
def r20_Check_s0 {R : Type} (r_0 : Zt19) (a_1 : Zt17) (b_2 : Zt17) (jn0 : Bool → Zt19 → Zt17 → Zt17 → Option R) : Option R :=
  (bif (decide (r_0.1 < (1 : Int))) then (jn0 true r_0 a_1 b_2) else (jn0 (decide ((5 : Int) < r_0.1)) r_0 a_1 b_2))
theorem r20_Check_s0_bind {R S : Type} (F : R → Option S) (r_0 : Zt19) (a_1 : Zt17) (b_2 : Zt17) (jn0 : Bool → Zt19 → Zt17 → Zt17 → Option R) : (r20_Check_s0 r_0 a_1 b_2 jn0).bind F = r20_Check_s0 r_0 a_1 b_2 (fun a0 a1 a2 a3 => (jn0 a0 a1 a2 a3).bind F) := by
  simp only [r20_Check_s0, cond_bind, within_bind, none_bind, some_bind, sum_bind, bind_bind]
def r20_Check_s1 {R : Type} (t23 : Bool) (bt3 : Zt19) (bt4 : Zt17) (bt5 : Zt17) (kr0 : Int → Option R) (jn1 : Zt19 → Zt17 → Zt17 → Option R) : Option R :=
  (bif t23 then (kr0 (1 : Int)) else (jn1 bt3 bt4 bt5))
theorem r20_Check_s1_bind {R S : Type} (F : R → Option S) (t23 : Bool) (bt3 : Zt19) (bt4 : Zt17) (bt5 : Zt17) (kr0 : Int → Option R) (jn1 : Zt19 → Zt17 → Zt17 → Option R) : (r20_Check_s1 t23 bt3 bt4 bt5 kr0 jn1).bind F = r20_Check_s1 t23 bt3 bt4 bt5 (fun a0 => (kr0 a0).bind F) (fun a0 a1 a2 => (jn1 a0 a1 a2).bind F) := by
  simp only [r20_Check_s1, cond_bind, within_bind, none_bind, some_bind, sum_bind, bind_bind]
def r20_Check_s2 {R : Type} (bt3 : Zt19) (bt4 : Zt17) (bt5 : Zt17) (jn2 : Int → Int → Bool → Zt19 → Zt17 → Zt17 → Option R) : Option R :=
  ((r13_Find bt4 bt3.2.1).bind fun r1 => ((r13_Find bt5 bt3.2.2.1).bind fun r2 => (bif (decide (bt3.1 = (3 : Int))) then (bif (!(decide (bt3.2.1 = (0 : Int)))) then (jn2 r1 r2 true bt3 bt4 bt5) else (bif (!(decide (bt3.1 = (3 : Int)))) then (jn2 r1 r2 (decide (r1 < (0 : Int))) bt3 bt4 bt5) else (jn2 r1 r2 false bt3 bt4 bt5))) else (bif (!(decide (bt3.1 = (3 : Int)))) then (jn2 r1 r2 (decide (r1 < (0 : Int))) bt3 bt4 bt5) else (jn2 r1 r2 false bt3 bt4 bt5)))))
theorem r20_Check_s2_bind {R S : Type} (F : R → Option S) (bt3 : Zt19) (bt4 : Zt17) (bt5 : Zt17) (jn2 : Int → Int → Bool → Zt19 → Zt17 → Zt17 → Option R) : (r20_Check_s2 bt3 bt4 bt5 jn2).bind F = r20_Check_s2 bt3 bt4 bt5 (fun a0 a1 a2 a3 a4 a5 => (jn2 a0 a1 a2 a3 a4 a5).bind F) := by
  simp only [r20_Check_s2, cond_bind, within_bind, none_bind, some_bind, sum_bind, bind_bind]
def r20_Check_s3 {R : Type} (t7 : Int) (t8 : Int) (t48 : Bool) (bt3 : Zt19) (bt4 : Zt17) (bt5 : Zt17) (kr0 : Int → Option R) (jn3 : Int → Int → Zt19 → Zt17 → Zt17 → Option R) : Option R :=
  (bif t48 then (kr0 (9 : Int)) else (jn3 t7 t8 bt3 bt4 bt5))
theorem r20_Check_s3_bind {R S : Type} (F : R → Option S) (t7 : Int) (t8 : Int) (t48 : Bool) (bt3 : Zt19) (bt4 : Zt17) (bt5 : Zt17) (kr0 : Int → Option R) (jn3 : Int → Int → Zt19 → Zt17 → Zt17 → Option R) : (r20_Check_s3 t7 t8 t48 bt3 bt4 bt5 kr0 jn3).bind F = r20_Check_s3 t7 t8 t48 bt3 bt4 bt5 (fun a0 => (kr0 a0).bind F) (fun a0 a1 a2 a3 a4 => (jn3 a0 a1 a2 a3 a4).bind F) := by
  simp only [r20_Check_s3, cond_bind, within_bind, none_bind, some_bind, sum_bind, bind_bind]
def r20_Check_s4 {R : Type} (t7 : Int) (t8 : Int) (bt3 : Zt19) (bt4 : Zt17) (bt5 : Zt17) (jn4 : Int → Int → Bool → Zt19 → Zt17 → Zt17 → Option R) : Option R :=
  (bif (decide (bt3.1 = (2 : Int))) then (bif (!(decide (bt3.2.2.1 = (0 : Int)))) then (jn4 t7 t8 true bt3 bt4 bt5) else (bif (!(decide (bt3.1 = (2 : Int)))) then (jn4 t7 t8 (decide (t8 < (0 : Int))) bt3 bt4 bt5) else (jn4 t7 t8 false bt3 bt4 bt5))) else (bif (!(decide (bt3.1 = (2 : Int)))) then (jn4 t7 t8 (decide (t8 < (0 : Int))) bt3 bt4 bt5) else (jn4 t7 t8 false bt3 bt4 bt5)))
theorem r20_Check_s4_bind {R S : Type} (F : R → Option S) (t7 : Int) (t8 : Int) (bt3 : Zt19) (bt4 : Zt17) (bt5 : Zt17) (jn4 : Int → Int → Bool → Zt19 → Zt17 → Zt17 → Option R) : (r20_Check_s4 t7 t8 bt3 bt4 bt5 jn4).bind F = r20_Check_s4 t7 t8 bt3 bt4 bt5 (fun a0 a1 a2 a3 a4 a5 => (jn4 a0 a1 a2 a3 a4 a5).bind F) := by
  simp only [r20_Check_s4, cond_bind, within_bind, none_bind, some_bind, sum_bind, bind_bind]
def r20_Check_s5 {R : Type} (t7 : Int) (t8 : Int) (t65 : Bool) (bt3 : Zt19) (bt4 : Zt17) (bt5 : Zt17) (kr0 : Int → Option R) (jn5 : Int → Int → Zt19 → Zt17 → Zt17 → Option R) : Option R :=
  (bif t65 then (kr0 (9 : Int)) else (jn5 t7 t8 bt3 bt4 bt5))
theorem r20_Check_s5_bind {R S : Type} (F : R → Option S) (t7 : Int) (t8 : Int) (t65 : Bool) (bt3 : Zt19) (bt4 : Zt17) (bt5 : Zt17) (kr0 : Int → Option R) (jn5 : Int → Int → Zt19 → Zt17 → Zt17 → Option R) : (r20_Check_s5 t7 t8 t65 bt3 bt4 bt5 kr0 jn5).bind F = r20_Check_s5 t7 t8 t65 bt3 bt4 bt5 (fun a0 => (kr0 a0).bind F) (fun a0 a1 a2 a3 a4 => (jn5 a0 a1 a2 a3 a4).bind F) := by
  simp only [r20_Check_s5, cond_bind, within_bind, none_bind, some_bind, sum_bind, bind_bind]
def r20_Check_s6 {R : Type} (t7 : Int) (t8 : Int) (bt3 : Zt19) (bt4 : Zt17) (bt5 : Zt17) (jn6 : Int → Int → Bool → Zt19 → Zt17 → Zt17 → Option R) : Option R :=
  (bif (!(decide (bt3.2.2.2.1 = (bs [])))) then (bif (!(decide (bt3.1 = (3 : Int)))) then (jn6 t7 t8 true bt3 bt4 bt5) else (bif (decide ((0 : Int) < ((List.length bt3.2.2.2.2.1) : Int))) then (jn6 t7 t8 (!(decide (bt3.1 = (5 : Int)))) bt3 bt4 bt5) else (jn6 t7 t8 false bt3 bt4 bt5))) else (bif (decide ((0 : Int) < ((List.length bt3.2.2.2.2.1) : Int))) then (jn6 t7 t8 (!(decide (bt3.1 = (5 : Int)))) bt3 bt4 bt5) else (jn6 t7 t8 false bt3 bt4 bt5)))
theorem r20_Check_s6_bind {R S : Type} (F : R → Option S) (t7 : Int) (t8 : Int) (bt3 : Zt19) (bt4 : Zt17) (bt5 : Zt17) (jn6 : Int → Int → Bool → Zt19 → Zt17 → Zt17 → Option R) : (r20_Check_s6 t7 t8 bt3 bt4 bt5 jn6).bind F = r20_Check_s6 t7 t8 bt3 bt4 bt5 (fun a0 a1 a2 a3 a4 a5 => (jn6 a0 a1 a2 a3 a4 a5).bind F) := by
  simp only [r20_Check_s6, cond_bind, within_bind, none_bind, some_bind, sum_bind, bind_bind]
def r20_Check_s7 {R : Type} (t7 : Int) (t8 : Int) (t84 : Bool) (bt3 : Zt19) (bt4 : Zt17) (bt5 : Zt17) (kr0 : Int → Option R) (jn7 : Int → Int → Zt19 → Zt17 → Zt17 → Option R) : Option R :=
  (bif t84 then (kr0 (3 : Int)) else (jn7 t7 t8 bt3 bt4 bt5))
theorem r20_Check_s7_bind {R S : Type} (F : R → Option S) (t7 : Int) (t8 : Int) (t84 : Bool) (bt3 : Zt19) (bt4 : Zt17) (bt5 : Zt17) (kr0 : Int → Option R) (jn7 : Int → Int → Zt19 → Zt17 → Zt17 → Option R) : (r20_Check_s7 t7 t8 t84 bt3 bt4 bt5 kr0 jn7).bind F = r20_Check_s7 t7 t8 t84 bt3 bt4 bt5 (fun a0 => (kr0 a0).bind F) (fun a0 a1 a2 a3 a4 => (jn7 a0 a1 a2 a3 a4).bind F) := by
  simp only [r20_Check_s7, cond_bind, within_bind, none_bind, some_bind, sum_bind, bind_bind]
def r20_Check_s8 {R : Type} (t7 : Int) (t8 : Int) (bt3 : Zt19) (bt4 : Zt17) (bt5 : Zt17) (kr0 : Int → Option R) (jn8 : Option R) (jn9 : Bool → Option R) (jn10 : Int → Int → Bool → Zt19 → Zt17 → Zt17 → Option R) : Option R :=
  (bif (decide (bt3.1 = (1 : Int))) then (within t8 (List.length bt5.2.2.1) (within t7 (List.length bt4.2.2.1) ((r11_Wider (List.getD bt5.2.2.1 (t8).toNat ((0 : Int), (0 : Int), (0 : Int), (0 : Int), (0 : Int), ())) (List.getD bt4.2.2.1 (t7).toNat ((0 : Int), (0 : Int), (0 : Int), (0 : Int), (0 : Int), ()))).bind fun r3 => (bif (!r3) then (kr0 (6 : Int)) else (jn8))))) else (bif (decide (bt3.1 = (3 : Int))) then (within t8 (List.length bt5.2.2.1) ((r11_Value (List.getD bt5.2.2.1 (t8).toNat ((0 : Int), (0 : Int), (0 : Int), (0 : Int), (0 : Int), ())) bt3.2.2.2.1).bind fun r4 => (kr0 r4))) else (bif (decide (bt3.1 = (4 : Int))) then (within t7 (List.length bt4.2.2.1) (within t8 (List.length bt5.2.2.1) (bif (!(decide ((List.getD bt4.2.2.1 (t7).toNat ((0 : Int), (0 : Int), (0 : Int), (0 : Int), (0 : Int), ())).2.1 = (1 : Int)))) then (jn9 true) else (bif (!(decide ((List.getD bt4.2.2.1 (t7).toNat ((0 : Int), (0 : Int), (0 : Int), (0 : Int), (0 : Int), ())).2.2.1 = (1 : Int)))) then (jn9 true) else (bif (!(decide ((List.getD bt5.2.2.1 (t8).toNat ((0 : Int), (0 : Int), (0 : Int), (0 : Int), (0 : Int), ())).2.1 = (1 : Int)))) then (jn9 true) else (jn9 (!(decide ((List.getD bt5.2.2.1 (t8).toNat ((0 : Int), (0 : Int), (0 : Int), (0 : Int), (0 : Int), ())).2.2.1 = (1 : Int)))))))))) else (bif (decide (bt3.1 = (5 : Int))) then ((r19_Check bt3.2.2.2.2.1).bind fun r5 => (bif (!(decide (r5.1 = (0 : Int)))) then (jn10 t7 t8 true bt3 bt4 bt5) else (jn10 t7 t8 (decide (((List.length bt3.2.2.2.2.1) : Int) = (0 : Int))) bt3 bt4 bt5))) else (jn8)))))
theorem r20_Check_s8_bind {R S : Type} (F : R → Option S) (t7 : Int) (t8 : Int) (bt3 : Zt19) (bt4 : Zt17) (bt5 : Zt17) (kr0 : Int → Option R) (jn8 : Option R) (jn9 : Bool → Option R) (jn10 : Int → Int → Bool → Zt19 → Zt17 → Zt17 → Option R) : (r20_Check_s8 t7 t8 bt3 bt4 bt5 kr0 jn8 jn9 jn10).bind F = r20_Check_s8 t7 t8 bt3 bt4 bt5 (fun a0 => (kr0 a0).bind F) ((jn8).bind F) (fun a0 => (jn9 a0).bind F) (fun a0 a1 a2 a3 a4 a5 => (jn10 a0 a1 a2 a3 a4 a5).bind F) := by
  simp only [r20_Check_s8, cond_bind, within_bind, none_bind, some_bind, sum_bind, bind_bind]
def r20_Check_s9 {R : Type}  (kr0 : Int → Option R) : Option R :=
  (kr0 (0 : Int))
theorem r20_Check_s9_bind {R S : Type} (F : R → Option S)  (kr0 : Int → Option R) : (r20_Check_s9 kr0).bind F = r20_Check_s9 (fun a0 => (kr0 a0).bind F) := by
  simp only [r20_Check_s9, cond_bind, within_bind, none_bind, some_bind, sum_bind, bind_bind]
def r20_Check_s10 {R : Type} (t140 : Bool) (kr0 : Int → Option R) (jn8 : Option R) : Option R :=
  (bif t140 then (kr0 (6 : Int)) else (jn8))
theorem r20_Check_s10_bind {R S : Type} (F : R → Option S) (t140 : Bool) (kr0 : Int → Option R) (jn8 : Option R) : (r20_Check_s10 t140 kr0 jn8).bind F = r20_Check_s10 t140 (fun a0 => (kr0 a0).bind F) ((jn8).bind F) := by
  simp only [r20_Check_s10, cond_bind, within_bind, none_bind, some_bind, sum_bind, bind_bind]
def r20_Check_s11 {R : Type} (t7 : Int) (t8 : Int) (t156 : Bool) (bt3 : Zt19) (bt4 : Zt17) (bt5 : Zt17) (kr0 : Int → Option R) (jn11 : Int → Int → Zt19 → Zt17 → Zt17 → Option R) : Option R :=
  (bif t156 then (kr0 (15 : Int)) else (jn11 t7 t8 bt3 bt4 bt5))
theorem r20_Check_s11_bind {R S : Type} (F : R → Option S) (t7 : Int) (t8 : Int) (t156 : Bool) (bt3 : Zt19) (bt4 : Zt17) (bt5 : Zt17) (kr0 : Int → Option R) (jn11 : Int → Int → Zt19 → Zt17 → Zt17 → Option R) : (r20_Check_s11 t7 t8 t156 bt3 bt4 bt5 kr0 jn11).bind F = r20_Check_s11 t7 t8 t156 bt3 bt4 bt5 (fun a0 => (kr0 a0).bind F) (fun a0 a1 a2 a3 a4 => (jn11 a0 a1 a2 a3 a4).bind F) := by
  simp only [r20_Check_s11, cond_bind, within_bind, none_bind, some_bind, sum_bind, bind_bind]
def r20_Check_s12 {R : Type} (t7 : Int) (t8 : Int) (bt3 : Zt19) (bt4 : Zt17) (bt5 : Zt17) (go0 : Int → Int → Int → Zt19 → Zt17 → Zt17 → Option R) : Option R :=
  (go0 t7 t8 (0 : Int) bt3 bt4 bt5)
theorem r20_Check_s12_bind {R S : Type} (F : R → Option S) (t7 : Int) (t8 : Int) (bt3 : Zt19) (bt4 : Zt17) (bt5 : Zt17) (go0 : Int → Int → Int → Zt19 → Zt17 → Zt17 → Option R) : (r20_Check_s12 t7 t8 bt3 bt4 bt5 go0).bind F = r20_Check_s12 t7 t8 bt3 bt4 bt5 (fun a0 a1 a2 a3 a4 a5 => (go0 a0 a1 a2 a3 a4 a5).bind F) := by
  simp only [r20_Check_s12, cond_bind, within_bind, none_bind, some_bind, sum_bind, bind_bind]
def r20_Check_s13 {R : Type} (t7 : Int) (t8 : Int) (t13 : Int) (bt3 : Zt19) (bt4 : Zt17) (bt5 : Zt17) (jn12 : Int → Int → Int → Zt19 → Zt17 → Zt17 → Option R) (ex0_0 : Option R) : Option R :=
  (bif (decide (t13 < ((List.length bt3.2.2.2.2.1) : Int))) then (jn12 t7 t8 t13 bt3 bt4 bt5) else (ex0_0))
theorem r20_Check_s13_bind {R S : Type} (F : R → Option S) (t7 : Int) (t8 : Int) (t13 : Int) (bt3 : Zt19) (bt4 : Zt17) (bt5 : Zt17) (jn12 : Int → Int → Int → Zt19 → Zt17 → Zt17 → Option R) (ex0_0 : Option R) : (r20_Check_s13 t7 t8 t13 bt3 bt4 bt5 jn12 ex0_0).bind F = r20_Check_s13 t7 t8 t13 bt3 bt4 bt5 (fun a0 a1 a2 a3 a4 a5 => (jn12 a0 a1 a2 a3 a4 a5).bind F) ((ex0_0).bind F) := by
  simp only [r20_Check_s13, cond_bind, within_bind, none_bind, some_bind, sum_bind, bind_bind]
def r20_Check_s14 {R : Type} (t7 : Int) (t8 : Int) (t13 : Int) (bt3 : Zt19) (bt4 : Zt17) (bt5 : Zt17) (ex0_1 : Int → Option R) (jn13 : Int → Int → Int → Zt19 → Zt17 → Zt17 → Option R) : Option R :=
  (within t7 (List.length bt4.2.2.1) (within t13 (List.length bt3.2.2.2.2.1) ((r11_Value (List.getD bt4.2.2.1 (t7).toNat ((0 : Int), (0 : Int), (0 : Int), (0 : Int), (0 : Int), ())) (List.getD bt3.2.2.2.2.1 (t13).toNat ((bs []), (bs []), ())).1).bind fun r6 => (bif (!(decide (r6 = (0 : Int)))) then (ex0_1 r6) else (jn13 t7 t8 t13 bt3 bt4 bt5)))))
theorem r20_Check_s14_bind {R S : Type} (F : R → Option S) (t7 : Int) (t8 : Int) (t13 : Int) (bt3 : Zt19) (bt4 : Zt17) (bt5 : Zt17) (ex0_1 : Int → Option R) (jn13 : Int → Int → Int → Zt19 → Zt17 → Zt17 → Option R) : (r20_Check_s14 t7 t8 t13 bt3 bt4 bt5 ex0_1 jn13).bind F = r20_Check_s14 t7 t8 t13 bt3 bt4 bt5 (fun a0 => (ex0_1 a0).bind F) (fun a0 a1 a2 a3 a4 a5 => (jn13 a0 a1 a2 a3 a4 a5).bind F) := by
  simp only [r20_Check_s14, cond_bind, within_bind, none_bind, some_bind, sum_bind, bind_bind]
def r20_Check_s15 {R : Type}  (jn8 : Option R) : Option R :=
  (jn8)
theorem r20_Check_s15_bind {R S : Type} (F : R → Option S)  (jn8 : Option R) : (r20_Check_s15 jn8).bind F = r20_Check_s15 ((jn8).bind F) := by
  simp only [r20_Check_s15, cond_bind, within_bind, none_bind, some_bind, sum_bind, bind_bind]
def r20_Check_s16 {R : Type} (t6 : Int) (kr0 : Int → Option R) : Option R :=
  (kr0 t6)
theorem r20_Check_s16_bind {R S : Type} (F : R → Option S) (t6 : Int) (kr0 : Int → Option R) : (r20_Check_s16 t6 kr0).bind F = r20_Check_s16 t6 (fun a0 => (kr0 a0).bind F) := by
  simp only [r20_Check_s16, cond_bind, within_bind, none_bind, some_bind, sum_bind, bind_bind]
def r20_Check_s17 {R : Type} (t7 : Int) (t8 : Int) (t13 : Int) (bt3 : Zt19) (bt4 : Zt17) (bt5 : Zt17) (ex0_1 : Int → Option R) (jn14 : Int → Int → Int → Zt19 → Zt17 → Zt17 → Option R) : Option R :=
  (within t8 (List.length bt5.2.2.1) (within t13 (List.length bt3.2.2.2.2.1) ((r11_Value (List.getD bt5.2.2.1 (t8).toNat ((0 : Int), (0 : Int), (0 : Int), (0 : Int), (0 : Int), ())) (List.getD bt3.2.2.2.2.1 (t13).toNat ((bs []), (bs []), ())).2.1).bind fun r7 => (bif (!(decide (r7 = (0 : Int)))) then (ex0_1 r7) else (jn14 t7 t8 t13 bt3 bt4 bt5)))))
theorem r20_Check_s17_bind {R S : Type} (F : R → Option S) (t7 : Int) (t8 : Int) (t13 : Int) (bt3 : Zt19) (bt4 : Zt17) (bt5 : Zt17) (ex0_1 : Int → Option R) (jn14 : Int → Int → Int → Zt19 → Zt17 → Zt17 → Option R) : (r20_Check_s17 t7 t8 t13 bt3 bt4 bt5 ex0_1 jn14).bind F = r20_Check_s17 t7 t8 t13 bt3 bt4 bt5 (fun a0 => (ex0_1 a0).bind F) (fun a0 a1 a2 a3 a4 a5 => (jn14 a0 a1 a2 a3 a4 a5).bind F) := by
  simp only [r20_Check_s17, cond_bind, within_bind, none_bind, some_bind, sum_bind, bind_bind]
def r20_Check_s18 {R : Type} (t7 : Int) (t8 : Int) (t13 : Int) (bt3 : Zt19) (bt4 : Zt17) (bt5 : Zt17) (nx0 : Int → Int → Int → Zt19 → Zt17 → Zt17 → Option R) : Option R :=
  (nx0 t7 t8 (IntKind.i64.wrap (t13 + (1 : Int))) bt3 bt4 bt5)
theorem r20_Check_s18_bind {R S : Type} (F : R → Option S) (t7 : Int) (t8 : Int) (t13 : Int) (bt3 : Zt19) (bt4 : Zt17) (bt5 : Zt17) (nx0 : Int → Int → Int → Zt19 → Zt17 → Zt17 → Option R) : (r20_Check_s18 t7 t8 t13 bt3 bt4 bt5 nx0).bind F = r20_Check_s18 t7 t8 t13 bt3 bt4 bt5 (fun a0 a1 a2 a3 a4 a5 => (nx0 a0 a1 a2 a3 a4 a5).bind F) := by
  simp only [r20_Check_s18, cond_bind, within_bind, none_bind, some_bind, sum_bind, bind_bind]
def r20_Check_l0 : Nat → Int → Int → Int → Zt19 → Zt17 → Zt17 → Option (Sum Unit Int)
  | 0, _, _, _, _, _, _ => none
  | k + 1, v0, v1, v2, v3, v4, v5 => r20_Check_s13 v0 v1 v2 v3 v4 v5 (fun a0 a1 a2 a3 a4 a5 => r20_Check_s14 a0 a1 a2 a3 a4 a5 (fun a0 => some (.inr a0)) (fun a0 a1 a2 a3 a4 a5 => r20_Check_s17 a0 a1 a2 a3 a4 a5 (fun a0 => some (.inr a0)) (fun a0 a1 a2 a3 a4 a5 => r20_Check_s18 a0 a1 a2 a3 a4 a5 (fun a0 a1 a2 a3 a4 a5 => r20_Check_l0 k a0 a1 a2 a3 a4 a5)))) (some (.inl ()))
def r20_Check_j8  : Option Int :=
  r20_Check_s9 (fun a0 => some a0)
def r20_Check_j9 (t140 : Bool) : Option Int :=
  r20_Check_s10 t140 (fun a0 => some a0) (r20_Check_j8)
def r20_Check_j11 (t7 : Int) (t8 : Int) (bt3 : Zt19) (bt4 : Zt17) (bt5 : Zt17) : Option Int :=
  r20_Check_s12 t7 t8 bt3 bt4 bt5 (fun a0 a1 a2 a3 a4 a5 => (r20_Check_l0 FUEL a0 a1 a2 a3 a4 a5).bind fun e => (Sum.elim (fun (we : Unit) => r20_Check_s15 (r20_Check_j8)) (fun (we : Int) => r20_Check_s16 we (fun a0 => some a0)) e))
def r20_Check_j10 (t7 : Int) (t8 : Int) (t156 : Bool) (bt3 : Zt19) (bt4 : Zt17) (bt5 : Zt17) : Option Int :=
  r20_Check_s11 t7 t8 t156 bt3 bt4 bt5 (fun a0 => some a0) (fun a0 a1 a2 a3 a4 => r20_Check_j11 a0 a1 a2 a3 a4)
def r20_Check_j7 (t7 : Int) (t8 : Int) (bt3 : Zt19) (bt4 : Zt17) (bt5 : Zt17) : Option Int :=
  r20_Check_s8 t7 t8 bt3 bt4 bt5 (fun a0 => some a0) (r20_Check_j8) (fun a0 => r20_Check_j9 a0) (fun a0 a1 a2 a3 a4 a5 => r20_Check_j10 a0 a1 a2 a3 a4 a5)
def r20_Check_j6 (t7 : Int) (t8 : Int) (t84 : Bool) (bt3 : Zt19) (bt4 : Zt17) (bt5 : Zt17) : Option Int :=
  r20_Check_s7 t7 t8 t84 bt3 bt4 bt5 (fun a0 => some a0) (fun a0 a1 a2 a3 a4 => r20_Check_j7 a0 a1 a2 a3 a4)
def r20_Check_j5 (t7 : Int) (t8 : Int) (bt3 : Zt19) (bt4 : Zt17) (bt5 : Zt17) : Option Int :=
  r20_Check_s6 t7 t8 bt3 bt4 bt5 (fun a0 a1 a2 a3 a4 a5 => r20_Check_j6 a0 a1 a2 a3 a4 a5)
def r20_Check_j4 (t7 : Int) (t8 : Int) (t65 : Bool) (bt3 : Zt19) (bt4 : Zt17) (bt5 : Zt17) : Option Int :=
  r20_Check_s5 t7 t8 t65 bt3 bt4 bt5 (fun a0 => some a0) (fun a0 a1 a2 a3 a4 => r20_Check_j5 a0 a1 a2 a3 a4)
def r20_Check_j3 (t7 : Int) (t8 : Int) (bt3 : Zt19) (bt4 : Zt17) (bt5 : Zt17) : Option Int :=
  r20_Check_s4 t7 t8 bt3 bt4 bt5 (fun a0 a1 a2 a3 a4 a5 => r20_Check_j4 a0 a1 a2 a3 a4 a5)
def r20_Check_j2 (t7 : Int) (t8 : Int) (t48 : Bool) (bt3 : Zt19) (bt4 : Zt17) (bt5 : Zt17) : Option Int :=
  r20_Check_s3 t7 t8 t48 bt3 bt4 bt5 (fun a0 => some a0) (fun a0 a1 a2 a3 a4 => r20_Check_j3 a0 a1 a2 a3 a4)
def r20_Check_j1 (bt3 : Zt19) (bt4 : Zt17) (bt5 : Zt17) : Option Int :=
  r20_Check_s2 bt3 bt4 bt5 (fun a0 a1 a2 a3 a4 a5 => r20_Check_j2 a0 a1 a2 a3 a4 a5)
def r20_Check_j0 (t23 : Bool) (bt3 : Zt19) (bt4 : Zt17) (bt5 : Zt17) : Option Int :=
  r20_Check_s1 t23 bt3 bt4 bt5 (fun a0 => some a0) (fun a0 a1 a2 => r20_Check_j1 a0 a1 a2)
def r20_Check (r_0 : Zt19) (a_1 : Zt17) (b_2 : Zt17) : Option Int :=
  r20_Check_s0 r_0 a_1 b_2 (fun a0 a1 a2 a3 => r20_Check_j0 a0 a1 a2 a3)
def r20_Apply_s0 {R : Type} (r_0 : Zt19) (b_1 : Zt17) (text_2 : ByteArray) (kr0 : Zt6 → Int → Option R) : Option R :=
  (bif (decide (r_0.1 = (1 : Int))) then (kr0 (r_0.2.2.1, text_2, ()) (0 : Int)) else (bif (decide (r_0.1 = (2 : Int))) then (kr0 ((0 : Int), (bs []), ()) (0 : Int)) else (bif (decide (r_0.1 = (3 : Int))) then (kr0 (r_0.2.2.1, r_0.2.2.2.1, ()) (0 : Int)) else (bif (decide (r_0.1 = (4 : Int))) then ((r13_Find b_1 r_0.2.2.1).bind fun r1 => (bif (decide (r1 < (0 : Int))) then (kr0 ((0 : Int), (bs []), ()) (9 : Int)) else (within r1 (List.length b_1.2.2.1) ((r01_Pad text_2 (List.getD b_1.2.2.1 (r1).toNat ((0 : Int), (0 : Int), (0 : Int), (0 : Int), (0 : Int), ())).2.2.2.1).bind fun r2 => (bif (!r2.2) then (kr0 ((0 : Int), (bs []), ()) (5 : Int)) else (kr0 (r_0.2.2.1, r2.1, ()) (0 : Int))))))) else (bif (decide (r_0.1 = (5 : Int))) then ((r19_Apply r_0.2.2.2.2.1 text_2).bind fun r3 => (bif (!r3.2) then (kr0 ((0 : Int), (bs []), ()) (15 : Int)) else (kr0 (r_0.2.2.1, r3.1, ()) (0 : Int)))) else (kr0 ((0 : Int), (bs []), ()) (1 : Int)))))))
theorem r20_Apply_s0_bind {R S : Type} (F : R → Option S) (r_0 : Zt19) (b_1 : Zt17) (text_2 : ByteArray) (kr0 : Zt6 → Int → Option R) : (r20_Apply_s0 r_0 b_1 text_2 kr0).bind F = r20_Apply_s0 r_0 b_1 text_2 (fun a0 a1 => (kr0 a0 a1).bind F) := by
  simp only [r20_Apply_s0, cond_bind, within_bind, none_bind, some_bind, sum_bind, bind_bind]
def r20_Apply (r_0 : Zt19) (b_1 : Zt17) (text_2 : ByteArray) : Option (Zt6 × Int) :=
  r20_Apply_s0 r_0 b_1 text_2 (fun a0 a1 => some (a0, a1))
end Groat
set_option linter.unusedVariables false
set_option linter.unusedSimpArgs false
set_option maxRecDepth 100000
namespace Groat
open Go Go.Ref
def rule_Apply_s0 {R : Type} (r_0 : Zt19) (b_1 : Zt17) (text_2 : ByteArray) (kr0 : Zt6 → Int → Option R) : Option R :=
  (bif (decide (r_0.1 = (1 : Int))) then (kr0 (r_0.2.2.1, text_2, ()) (0 : Int)) else (bif (decide (r_0.1 = (2 : Int))) then (kr0 ((0 : Int), (bs []), ()) (0 : Int)) else (bif (decide (r_0.1 = (3 : Int))) then (kr0 (r_0.2.2.1, r_0.2.2.2.1, ()) (0 : Int)) else (bif (decide (r_0.1 = (4 : Int))) then ((schema_Find b_1 r_0.2.2.1).bind fun r1 => (bif (!r1.2) then (kr0 ((0 : Int), (bs []), ()) (9 : Int)) else ((digits_Pad text_2 r1.1.2.2.2.1).bind fun r2 => (bif (!r2.2) then (kr0 ((0 : Int), (bs []), ()) (5 : Int)) else (kr0 (r_0.2.2.1, r2.1, ()) (0 : Int)))))) else (bif (decide (r_0.1 = (5 : Int))) then ((codes_Apply r_0.2.2.2.2.1 text_2).bind fun r3 => (bif (!r3.2) then (kr0 ((0 : Int), (bs []), ()) (15 : Int)) else (kr0 (r_0.2.2.1, r3.1, ()) (0 : Int)))) else (kr0 ((0 : Int), (bs []), ()) (1 : Int)))))))
theorem rule_Apply_s0_bind {R S : Type} (F : R → Option S) (r_0 : Zt19) (b_1 : Zt17) (text_2 : ByteArray) (kr0 : Zt6 → Int → Option R) : (rule_Apply_s0 r_0 b_1 text_2 kr0).bind F = rule_Apply_s0 r_0 b_1 text_2 (fun a0 a1 => (kr0 a0 a1).bind F) := by
  simp only [rule_Apply_s0, cond_bind, within_bind, none_bind, some_bind, sum_bind, bind_bind]
def rule_Apply (r_0 : Zt19) (b_1 : Zt17) (text_2 : ByteArray) : Option (Zt6 × Int) :=
  rule_Apply_s0 r_0 b_1 text_2 (fun a0 a1 => some (a0, a1))
def rule_ends_s0 {R : Type} (r_0 : Zt19) (a_1 : Zt17) (b_2 : Zt17) (kr0 : Zt12 → Zt12 → Int → Option R) : Option R :=
  ((schema_Find a_1 r_0.2.1).bind fun r1 => ((schema_Find b_2 r_0.2.2.1).bind fun r2 => (bif (decide (r_0.1 = (3 : Int))) then (bif (decide (r_0.1 = (2 : Int))) then (bif (!(decide (r_0.2.1 = (0 : Int)))) then (kr0 r1.1 r2.1 (9 : Int)) else (bif (!(decide (r_0.2.2.1 = (0 : Int)))) then (kr0 r1.1 r2.1 (9 : Int)) else (kr0 r1.1 r2.1 (0 : Int)))) else (bif (!(decide (r_0.2.1 = (0 : Int)))) then (kr0 r1.1 r2.1 (9 : Int)) else (bif (!r2.2) then (kr0 r1.1 r2.1 (9 : Int)) else (kr0 r1.1 r2.1 (0 : Int))))) else (bif (decide (r_0.1 = (2 : Int))) then (bif (!r1.2) then (kr0 r1.1 r2.1 (9 : Int)) else (bif (!(decide (r_0.2.2.1 = (0 : Int)))) then (kr0 r1.1 r2.1 (9 : Int)) else (kr0 r1.1 r2.1 (0 : Int)))) else (bif (!r1.2) then (kr0 r1.1 r2.1 (9 : Int)) else (bif (!r2.2) then (kr0 r1.1 r2.1 (9 : Int)) else (kr0 r1.1 r2.1 (0 : Int))))))))
theorem rule_ends_s0_bind {R S : Type} (F : R → Option S) (r_0 : Zt19) (a_1 : Zt17) (b_2 : Zt17) (kr0 : Zt12 → Zt12 → Int → Option R) : (rule_ends_s0 r_0 a_1 b_2 kr0).bind F = rule_ends_s0 r_0 a_1 b_2 (fun a0 a1 a2 => (kr0 a0 a1 a2).bind F) := by
  simp only [rule_ends_s0, cond_bind, within_bind, none_bind, some_bind, sum_bind, bind_bind]
def rule_ends (r_0 : Zt19) (a_1 : Zt17) (b_2 : Zt17) : Option (Zt12 × Zt12 × Int) :=
  rule_ends_s0 r_0 a_1 b_2 (fun a0 a1 a2 => some (a0, a1, a2))
def rule_padded_s0 {R : Type} (s_0 : Zt12) (kr0 : Bool → Option R) : Option R :=
  (bif (decide (s_0.2.1 = (1 : Int))) then (kr0 (decide (s_0.2.2.1 = (1 : Int)))) else (kr0 false))
theorem rule_padded_s0_bind {R S : Type} (F : R → Option S) (s_0 : Zt12) (kr0 : Bool → Option R) : (rule_padded_s0 s_0 kr0).bind F = rule_padded_s0 s_0 (fun a0 => (kr0 a0).bind F) := by
  simp only [rule_padded_s0, cond_bind, within_bind, none_bind, some_bind, sum_bind, bind_bind]
def rule_padded (s_0 : Zt12) : Option Bool :=
  rule_padded_s0 s_0 (fun a0 => some a0)
def rule_table_s0 {R : Type} (l_0 : Zt13) (from_1 : Zt12) (to_2 : Zt12) (kr0 : Int → Option R) (go0 : Zt13 → Int → Int → Zt12 → Zt12 → Option R) : Option R :=
  ((codes_Check l_0).bind fun r1 => (bif (!(decide (r1.1 = (0 : Int)))) then (kr0 (15 : Int)) else (bif (decide (((List.length l_0) : Int) = (0 : Int))) then (kr0 (15 : Int)) else (go0 l_0 ((List.length l_0) : Int) (0 : Int) from_1 to_2))))
theorem rule_table_s0_bind {R S : Type} (F : R → Option S) (l_0 : Zt13) (from_1 : Zt12) (to_2 : Zt12) (kr0 : Int → Option R) (go0 : Zt13 → Int → Int → Zt12 → Zt12 → Option R) : (rule_table_s0 l_0 from_1 to_2 kr0 go0).bind F = rule_table_s0 l_0 from_1 to_2 (fun a0 => (kr0 a0).bind F) (fun a0 a1 a2 a3 a4 => (go0 a0 a1 a2 a3 a4).bind F) := by
  simp only [rule_table_s0, cond_bind, within_bind, none_bind, some_bind, sum_bind, bind_bind]
def rule_table_s1 {R : Type} (t25 : Zt13) (t26 : Int) (t27 : Int) (bt4 : Zt12) (bt5 : Zt12) (ex0_0 : Int → Option R) (nx0 : Zt13 → Int → Int → Zt12 → Zt12 → Option R) (ex0_1 : Option R) : Option R :=
  (bif (decide (t27 < t26)) then (within t27 (List.length t25) ((spec_Value bt4 (List.getD t25 (t27).toNat ((bs []), (bs []), ())).1).bind fun r2 => (bif (!(decide (r2 = (0 : Int)))) then (ex0_0 r2) else ((spec_Value bt5 (List.getD t25 (t27).toNat ((bs []), (bs []), ())).2.1).bind fun r3 => (bif (!(decide (r3 = (0 : Int)))) then (ex0_0 r3) else (nx0 t25 t26 (IntKind.i64.wrap (t27 + (1 : Int))) bt4 bt5)))))) else (ex0_1))
theorem rule_table_s1_bind {R S : Type} (F : R → Option S) (t25 : Zt13) (t26 : Int) (t27 : Int) (bt4 : Zt12) (bt5 : Zt12) (ex0_0 : Int → Option R) (nx0 : Zt13 → Int → Int → Zt12 → Zt12 → Option R) (ex0_1 : Option R) : (rule_table_s1 t25 t26 t27 bt4 bt5 ex0_0 nx0 ex0_1).bind F = rule_table_s1 t25 t26 t27 bt4 bt5 (fun a0 => (ex0_0 a0).bind F) (fun a0 a1 a2 a3 a4 => (nx0 a0 a1 a2 a3 a4).bind F) ((ex0_1).bind F) := by
  simp only [rule_table_s1, cond_bind, within_bind, none_bind, some_bind, sum_bind, bind_bind]
def rule_table_s2 {R : Type} (t6 : Int) (kr0 : Int → Option R) : Option R :=
  (kr0 t6)
theorem rule_table_s2_bind {R S : Type} (F : R → Option S) (t6 : Int) (kr0 : Int → Option R) : (rule_table_s2 t6 kr0).bind F = rule_table_s2 t6 (fun a0 => (kr0 a0).bind F) := by
  simp only [rule_table_s2, cond_bind, within_bind, none_bind, some_bind, sum_bind, bind_bind]
def rule_table_s3 {R : Type}  (kr0 : Int → Option R) : Option R :=
  (kr0 (0 : Int))
theorem rule_table_s3_bind {R S : Type} (F : R → Option S)  (kr0 : Int → Option R) : (rule_table_s3 kr0).bind F = rule_table_s3 (fun a0 => (kr0 a0).bind F) := by
  simp only [rule_table_s3, cond_bind, within_bind, none_bind, some_bind, sum_bind, bind_bind]
def rule_table_l0 : Nat → Zt13 → Int → Int → Zt12 → Zt12 → Option (Sum Int Unit)
  | 0, _, _, _, _, _ => none
  | k + 1, v0, v1, v2, v3, v4 => rule_table_s1 v0 v1 v2 v3 v4 (fun a0 => some (.inl a0)) (fun a0 a1 a2 a3 a4 => rule_table_l0 k a0 a1 a2 a3 a4) (some (.inr ()))
def rule_table (l_0 : Zt13) (from_1 : Zt12) (to_2 : Zt12) : Option Int :=
  rule_table_s0 l_0 from_1 to_2 (fun a0 => some a0) (fun a0 a1 a2 a3 a4 => (rule_table_l0 FUEL a0 a1 a2 a3 a4).bind fun e => (Sum.elim (fun (we : Int) => rule_table_s2 we (fun a0 => some a0)) (fun (we : Unit) => rule_table_s3 (fun a0 => some a0)) e))
def rule_Check_s0 {R : Type} (r_0 : Zt19) (a_1 : Zt17) (b_2 : Zt17) (kr0 : Int → Option R) : Option R :=
  (bif (decide (r_0.1 < (1 : Int))) then (kr0 (1 : Int)) else (bif (decide ((5 : Int) < r_0.1)) then (kr0 (1 : Int)) else ((rule_ends r_0 a_1 b_2).bind fun r1 => (bif (!(decide (r1.2.2 = (0 : Int)))) then (kr0 r1.2.2) else (bif (!(decide (r_0.2.2.2.1 = (bs [])))) then (bif (!(decide (r_0.1 = (3 : Int)))) then (kr0 (3 : Int)) else (bif (decide ((0 : Int) < ((List.length r_0.2.2.2.2.1) : Int))) then (bif (!(decide (r_0.1 = (5 : Int)))) then (kr0 (3 : Int)) else (bif (decide (r_0.1 = (1 : Int))) then ((spec_Wider r1.2.1 r1.1).bind fun r2 => (bif (!r2) then (kr0 (6 : Int)) else (kr0 (0 : Int)))) else (bif (decide (r_0.1 = (3 : Int))) then ((spec_Value r1.2.1 r_0.2.2.2.1).bind fun r3 => (kr0 r3)) else (bif (decide (r_0.1 = (4 : Int))) then ((rule_padded r1.1).bind fun r4 => (bif (!r4) then (kr0 (6 : Int)) else ((rule_padded r1.2.1).bind fun r5 => (bif (!r5) then (kr0 (6 : Int)) else (kr0 (0 : Int)))))) else (bif (decide (r_0.1 = (5 : Int))) then ((rule_table r_0.2.2.2.2.1 r1.1 r1.2.1).bind fun r6 => (kr0 r6)) else (kr0 (0 : Int))))))) else (bif (decide (r_0.1 = (1 : Int))) then ((spec_Wider r1.2.1 r1.1).bind fun r7 => (bif (!r7) then (kr0 (6 : Int)) else (kr0 (0 : Int)))) else (bif (decide (r_0.1 = (3 : Int))) then ((spec_Value r1.2.1 r_0.2.2.2.1).bind fun r8 => (kr0 r8)) else (bif (decide (r_0.1 = (4 : Int))) then ((rule_padded r1.1).bind fun r9 => (bif (!r9) then (kr0 (6 : Int)) else ((rule_padded r1.2.1).bind fun r10 => (bif (!r10) then (kr0 (6 : Int)) else (kr0 (0 : Int)))))) else (bif (decide (r_0.1 = (5 : Int))) then ((rule_table r_0.2.2.2.2.1 r1.1 r1.2.1).bind fun r11 => (kr0 r11)) else (kr0 (0 : Int)))))))) else (bif (decide ((0 : Int) < ((List.length r_0.2.2.2.2.1) : Int))) then (bif (!(decide (r_0.1 = (5 : Int)))) then (kr0 (3 : Int)) else (bif (decide (r_0.1 = (1 : Int))) then ((spec_Wider r1.2.1 r1.1).bind fun r12 => (bif (!r12) then (kr0 (6 : Int)) else (kr0 (0 : Int)))) else (bif (decide (r_0.1 = (3 : Int))) then ((spec_Value r1.2.1 r_0.2.2.2.1).bind fun r13 => (kr0 r13)) else (bif (decide (r_0.1 = (4 : Int))) then ((rule_padded r1.1).bind fun r14 => (bif (!r14) then (kr0 (6 : Int)) else ((rule_padded r1.2.1).bind fun r15 => (bif (!r15) then (kr0 (6 : Int)) else (kr0 (0 : Int)))))) else (bif (decide (r_0.1 = (5 : Int))) then ((rule_table r_0.2.2.2.2.1 r1.1 r1.2.1).bind fun r16 => (kr0 r16)) else (kr0 (0 : Int))))))) else (bif (decide (r_0.1 = (1 : Int))) then ((spec_Wider r1.2.1 r1.1).bind fun r17 => (bif (!r17) then (kr0 (6 : Int)) else (kr0 (0 : Int)))) else (bif (decide (r_0.1 = (3 : Int))) then ((spec_Value r1.2.1 r_0.2.2.2.1).bind fun r18 => (kr0 r18)) else (bif (decide (r_0.1 = (4 : Int))) then ((rule_padded r1.1).bind fun r19 => (bif (!r19) then (kr0 (6 : Int)) else ((rule_padded r1.2.1).bind fun r20 => (bif (!r20) then (kr0 (6 : Int)) else (kr0 (0 : Int)))))) else (bif (decide (r_0.1 = (5 : Int))) then ((rule_table r_0.2.2.2.2.1 r1.1 r1.2.1).bind fun r21 => (kr0 r21)) else (kr0 (0 : Int))))))))))))
theorem rule_Check_s0_bind {R S : Type} (F : R → Option S) (r_0 : Zt19) (a_1 : Zt17) (b_2 : Zt17) (kr0 : Int → Option R) : (rule_Check_s0 r_0 a_1 b_2 kr0).bind F = rule_Check_s0 r_0 a_1 b_2 (fun a0 => (kr0 a0).bind F) := by
  simp only [rule_Check_s0, cond_bind, within_bind, none_bind, some_bind, sum_bind, bind_bind]
def rule_Check (r_0 : Zt19) (a_1 : Zt17) (b_2 : Zt17) : Option Int :=
  rule_Check_s0 r_0 a_1 b_2 (fun a0 => some a0)
end Groat
set_option linter.unusedVariables false
set_option linter.unusedSimpArgs false
set_option maxRecDepth 100000
namespace Groat
open Go Go.Ref
def r15_Right_s0 {R : Type} (m_0 : ByteArray) (kr0 : Bool → Option R) : Option R :=
  (bif (decide (((m_0).size : Int) = (4 : Int))) then ((r01_All m_0).bind fun r1 => (kr0 r1)) else (kr0 false))
theorem r15_Right_s0_bind {R S : Type} (F : R → Option S) (m_0 : ByteArray) (kr0 : Bool → Option R) : (r15_Right_s0 m_0 kr0).bind F = r15_Right_s0 m_0 (fun a0 => (kr0 a0).bind F) := by
  simp only [r15_Right_s0, cond_bind, within_bind, none_bind, some_bind, sum_bind, bind_bind]
def r15_Right (m_0 : ByteArray) : Option Bool :=
  r15_Right_s0 m_0 (fun a0 => some a0)
def r15_Request_s0 {R : Type} (m_0 : ByteArray) (kr0 : Bool → Option R) : Option R :=
  ((r01_Get m_0).bind fun r1 => (bif r1.2 then (bif (decide (((m_0).size : Int) = (4 : Int))) then (bif (decide ((Int.tmod (IntKind.i64.wrap (Int.tdiv r1.1 (10 : Int))) (10 : Int)) = (0 : Int))) then (kr0 true) else (kr0 (decide ((Int.tmod (IntKind.i64.wrap (Int.tdiv r1.1 (10 : Int))) (10 : Int)) = (2 : Int))))) else (kr0 false)) else (kr0 false)))
theorem r15_Request_s0_bind {R S : Type} (F : R → Option S) (m_0 : ByteArray) (kr0 : Bool → Option R) : (r15_Request_s0 m_0 kr0).bind F = r15_Request_s0 m_0 (fun a0 => (kr0 a0).bind F) := by
  simp only [r15_Request_s0, cond_bind, within_bind, none_bind, some_bind, sum_bind, bind_bind]
def r15_Request (m_0 : ByteArray) : Option Bool :=
  r15_Request_s0 m_0 (fun a0 => some a0)
end Groat
set_option linter.unusedVariables false
set_option linter.unusedSimpArgs false
set_option maxRecDepth 100000
namespace Groat
open Go Go.Ref
def r16_Same_s0 {R : Type} (a_0 : Zt16) (b_1 : Zt16) (kr0 : Bool → Option R) (go0 : Int → Zt16 → Zt16 → Option R) : Option R :=
  (bif (!(decide (a_0.1 = b_1.1))) then (kr0 false) else (bif (!(decide (((List.length a_0.2.1) : Int) = ((List.length b_1.2.1) : Int)))) then (kr0 false) else (go0 (0 : Int) a_0 b_1)))
theorem r16_Same_s0_bind {R S : Type} (F : R → Option S) (a_0 : Zt16) (b_1 : Zt16) (kr0 : Bool → Option R) (go0 : Int → Zt16 → Zt16 → Option R) : (r16_Same_s0 a_0 b_1 kr0 go0).bind F = r16_Same_s0 a_0 b_1 (fun a0 => (kr0 a0).bind F) (fun a0 a1 a2 => (go0 a0 a1 a2).bind F) := by
  simp only [r16_Same_s0, cond_bind, within_bind, none_bind, some_bind, sum_bind, bind_bind]
def r16_Same_s1 {R : Type} (t5 : Int) (bt2 : Zt16) (bt3 : Zt16) (ex0_0 : Bool → Option R) (nx0 : Int → Zt16 → Zt16 → Option R) (ex0_1 : Option R) : Option R :=
  (bif (decide (t5 < ((List.length bt2.2.1) : Int))) then (within t5 (List.length bt2.2.1) (within t5 (List.length bt3.2.1) (bif (!((decide ((List.getD bt2.2.1 (t5).toNat ((0 : Int), (bs []), ())).1 = (List.getD bt3.2.1 (t5).toNat ((0 : Int), (bs []), ())).1)) && ((decide ((List.getD bt2.2.1 (t5).toNat ((0 : Int), (bs []), ())).2.1 = (List.getD bt3.2.1 (t5).toNat ((0 : Int), (bs []), ())).2.1)) && true))) then (ex0_0 false) else (nx0 (IntKind.i64.wrap (t5 + (1 : Int))) bt2 bt3)))) else (ex0_1))
theorem r16_Same_s1_bind {R S : Type} (F : R → Option S) (t5 : Int) (bt2 : Zt16) (bt3 : Zt16) (ex0_0 : Bool → Option R) (nx0 : Int → Zt16 → Zt16 → Option R) (ex0_1 : Option R) : (r16_Same_s1 t5 bt2 bt3 ex0_0 nx0 ex0_1).bind F = r16_Same_s1 t5 bt2 bt3 (fun a0 => (ex0_0 a0).bind F) (fun a0 a1 a2 => (nx0 a0 a1 a2).bind F) ((ex0_1).bind F) := by
  simp only [r16_Same_s1, cond_bind, within_bind, none_bind, some_bind, sum_bind, bind_bind]
def r16_Same_s2 {R : Type} (t4 : Bool) (kr0 : Bool → Option R) : Option R :=
  (kr0 t4)
theorem r16_Same_s2_bind {R S : Type} (F : R → Option S) (t4 : Bool) (kr0 : Bool → Option R) : (r16_Same_s2 t4 kr0).bind F = r16_Same_s2 t4 (fun a0 => (kr0 a0).bind F) := by
  simp only [r16_Same_s2, cond_bind, within_bind, none_bind, some_bind, sum_bind, bind_bind]
def r16_Same_s3 {R : Type}  (kr0 : Bool → Option R) : Option R :=
  (kr0 true)
theorem r16_Same_s3_bind {R S : Type} (F : R → Option S)  (kr0 : Bool → Option R) : (r16_Same_s3 kr0).bind F = r16_Same_s3 (fun a0 => (kr0 a0).bind F) := by
  simp only [r16_Same_s3, cond_bind, within_bind, none_bind, some_bind, sum_bind, bind_bind]
def r16_Same_l0 : Nat → Int → Zt16 → Zt16 → Option (Sum Bool Unit)
  | 0, _, _, _ => none
  | k + 1, v0, v1, v2 => r16_Same_s1 v0 v1 v2 (fun a0 => some (.inl a0)) (fun a0 a1 a2 => r16_Same_l0 k a0 a1 a2) (some (.inr ()))
def r16_Same (a_0 : Zt16) (b_1 : Zt16) : Option Bool :=
  r16_Same_s0 a_0 b_1 (fun a0 => some a0) (fun a0 a1 a2 => (r16_Same_l0 FUEL a0 a1 a2).bind fun e => (Sum.elim (fun (we : Bool) => r16_Same_s2 we (fun a0 => some a0)) (fun (we : Unit) => r16_Same_s3 (fun a0 => some a0)) e))
def r16_Great_s0 {R : Type} (m_0 : Zt16) (kr0 : Bool → Option R) (go0 : Int → Zt16 → Option R) : Option R :=
  (bif (decide ((100 : Int) < ((m_0.1).size : Int))) then (kr0 true) else (bif (decide ((200 : Int) < ((List.length m_0.2.1) : Int))) then (kr0 true) else (go0 (0 : Int) m_0)))
theorem r16_Great_s0_bind {R S : Type} (F : R → Option S) (m_0 : Zt16) (kr0 : Bool → Option R) (go0 : Int → Zt16 → Option R) : (r16_Great_s0 m_0 kr0 go0).bind F = r16_Great_s0 m_0 (fun a0 => (kr0 a0).bind F) (fun a0 a1 => (go0 a0 a1).bind F) := by
  simp only [r16_Great_s0, cond_bind, within_bind, none_bind, some_bind, sum_bind, bind_bind]
def r16_Great_s1 {R : Type} (t3 : Int) (bt1 : Zt16) (ex0_0 : Bool → Option R) (nx0 : Int → Zt16 → Option R) (ex0_1 : Option R) : Option R :=
  (bif (decide (t3 < ((List.length bt1.2.1) : Int))) then (within t3 (List.length bt1.2.1) (bif (decide ((1200 : Int) < (((List.getD bt1.2.1 (t3).toNat ((0 : Int), (bs []), ())).2.1).size : Int))) then (ex0_0 true) else (nx0 (IntKind.i64.wrap (t3 + (1 : Int))) bt1))) else (ex0_1))
theorem r16_Great_s1_bind {R S : Type} (F : R → Option S) (t3 : Int) (bt1 : Zt16) (ex0_0 : Bool → Option R) (nx0 : Int → Zt16 → Option R) (ex0_1 : Option R) : (r16_Great_s1 t3 bt1 ex0_0 nx0 ex0_1).bind F = r16_Great_s1 t3 bt1 (fun a0 => (ex0_0 a0).bind F) (fun a0 a1 => (nx0 a0 a1).bind F) ((ex0_1).bind F) := by
  simp only [r16_Great_s1, cond_bind, within_bind, none_bind, some_bind, sum_bind, bind_bind]
def r16_Great_s2 {R : Type} (t2 : Bool) (kr0 : Bool → Option R) : Option R :=
  (kr0 t2)
theorem r16_Great_s2_bind {R S : Type} (F : R → Option S) (t2 : Bool) (kr0 : Bool → Option R) : (r16_Great_s2 t2 kr0).bind F = r16_Great_s2 t2 (fun a0 => (kr0 a0).bind F) := by
  simp only [r16_Great_s2, cond_bind, within_bind, none_bind, some_bind, sum_bind, bind_bind]
def r16_Great_s3 {R : Type}  (kr0 : Bool → Option R) : Option R :=
  (kr0 false)
theorem r16_Great_s3_bind {R S : Type} (F : R → Option S)  (kr0 : Bool → Option R) : (r16_Great_s3 kr0).bind F = r16_Great_s3 (fun a0 => (kr0 a0).bind F) := by
  simp only [r16_Great_s3, cond_bind, within_bind, none_bind, some_bind, sum_bind, bind_bind]
def r16_Great_l0 : Nat → Int → Zt16 → Option (Sum Bool Unit)
  | 0, _, _ => none
  | k + 1, v0, v1 => r16_Great_s1 v0 v1 (fun a0 => some (.inl a0)) (fun a0 a1 => r16_Great_l0 k a0 a1) (some (.inr ()))
def r16_Great (m_0 : Zt16) : Option Bool :=
  r16_Great_s0 m_0 (fun a0 => some a0) (fun a0 a1 => (r16_Great_l0 FUEL a0 a1).bind fun e => (Sum.elim (fun (we : Bool) => r16_Great_s2 we (fun a0 => some a0)) (fun (we : Unit) => r16_Great_s3 (fun a0 => some a0)) e))
def r16_Copy_s0 {R : Type} (m_0 : Zt16) (kr0 : Zt16 → Option R) : Option R :=
  (bif (decide (((List.length ([] : List Zt6)) + (List.length m_0.2.1)) * 24 ≤ 140737488355328)) then (kr0 (m_0.1, (([] : List Zt6) ++ m_0.2.1), ())) else none)
theorem r16_Copy_s0_bind {R S : Type} (F : R → Option S) (m_0 : Zt16) (kr0 : Zt16 → Option R) : (r16_Copy_s0 m_0 kr0).bind F = r16_Copy_s0 m_0 (fun a0 => (kr0 a0).bind F) := by
  simp only [r16_Copy_s0, cond_bind, within_bind, none_bind, some_bind, sum_bind, bind_bind]
def r16_Copy (m_0 : Zt16) : Option Zt16 :=
  r16_Copy_s0 m_0 (fun a0 => some a0)
def r16_Check_s0 {R : Type} (s_0 : Zt17) (m_1 : Zt16) (kr0 : Zt4 → Option R) (go0 : Int → Int → Zt17 → Zt16 → Zt4 → Option R) : Option R :=
  ((r13_Right s_0).bind fun r1 => (bif (!r1) then (kr0 ((1 : Int), (-1 : Int), ())) else ((r15_Right m_1.1).bind fun r2 => (bif (!r2) then (kr0 ((7 : Int), (0 : Int), ())) else (within (0 : Int) (m_1.1).size (bif (!(decide ((IntKind.i64.wrap ((IntKind.i64.wrap (byteAt m_1.1 ((0 : Int)).toNat)) - (48 : Int))) = s_0.2.1))) then (kr0 ((7 : Int), (0 : Int), ())) else (go0 (0 : Int) (0 : Int) s_0 m_1 ((0 : Int), (0 : Int), ()))))))))
theorem r16_Check_s0_bind {R S : Type} (F : R → Option S) (s_0 : Zt17) (m_1 : Zt16) (kr0 : Zt4 → Option R) (go0 : Int → Int → Zt17 → Zt16 → Zt4 → Option R) : (r16_Check_s0 s_0 m_1 kr0 go0).bind F = r16_Check_s0 s_0 m_1 (fun a0 => (kr0 a0).bind F) (fun a0 a1 a2 a3 a4 => (go0 a0 a1 a2 a3 a4).bind F) := by
  simp only [r16_Check_s0, cond_bind, within_bind, none_bind, some_bind, sum_bind, bind_bind]
def r16_Check_s1 {R : Type} (t5 : Int) (t6 : Int) (bt2 : Zt17) (bt3 : Zt16) (bt4 : Zt4) (ex0_0 : Zt4 → Option R) (nx0 : Int → Int → Zt17 → Zt16 → Zt4 → Option R) (ex0_1 : Zt4 → Option R) : Option R :=
  (bif (decide (t6 < ((List.length bt3.2.1) : Int))) then (within t6 (List.length bt3.2.1) (bif (decide ((List.getD bt3.2.1 (t6).toNat ((0 : Int), (bs []), ())).1 ≤ t5)) then (ex0_0 ((11 : Int), (List.getD bt3.2.1 (t6).toNat ((0 : Int), (bs []), ())).1, ())) else ((r13_Find bt2 (List.getD bt3.2.1 (t6).toNat ((0 : Int), (bs []), ())).1).bind fun r3 => (bif (decide (r3 < (0 : Int))) then (ex0_0 ((9 : Int), (List.getD bt3.2.1 (t6).toNat ((0 : Int), (bs []), ())).1, ())) else (within r3 (List.length bt2.2.2.1) (within t6 (List.length bt3.2.1) ((r11_Value (List.getD bt2.2.2.1 (r3).toNat ((0 : Int), (0 : Int), (0 : Int), (0 : Int), (0 : Int), ())) (List.getD bt3.2.1 (t6).toNat ((0 : Int), (bs []), ())).2.1).bind fun r4 => (bif (!(decide (r4 = (0 : Int)))) then (ex0_0 (r4, (List.getD bt3.2.1 (t6).toNat ((0 : Int), (bs []), ())).1, ())) else (nx0 (List.getD bt3.2.1 (t6).toNat ((0 : Int), (bs []), ())).1 (IntKind.i64.wrap (t6 + (1 : Int))) bt2 bt3 bt4))))))))) else (ex0_1 bt4))
theorem r16_Check_s1_bind {R S : Type} (F : R → Option S) (t5 : Int) (t6 : Int) (bt2 : Zt17) (bt3 : Zt16) (bt4 : Zt4) (ex0_0 : Zt4 → Option R) (nx0 : Int → Int → Zt17 → Zt16 → Zt4 → Option R) (ex0_1 : Zt4 → Option R) : (r16_Check_s1 t5 t6 bt2 bt3 bt4 ex0_0 nx0 ex0_1).bind F = r16_Check_s1 t5 t6 bt2 bt3 bt4 (fun a0 => (ex0_0 a0).bind F) (fun a0 a1 a2 a3 a4 => (nx0 a0 a1 a2 a3 a4).bind F) (fun a0 => (ex0_1 a0).bind F) := by
  simp only [r16_Check_s1, cond_bind, within_bind, none_bind, some_bind, sum_bind, bind_bind]
def r16_Check_s2 {R : Type} (bt4 : Zt4) (kr0 : Zt4 → Option R) : Option R :=
  (kr0 bt4)
theorem r16_Check_s2_bind {R S : Type} (F : R → Option S) (bt4 : Zt4) (kr0 : Zt4 → Option R) : (r16_Check_s2 bt4 kr0).bind F = r16_Check_s2 bt4 (fun a0 => (kr0 a0).bind F) := by
  simp only [r16_Check_s2, cond_bind, within_bind, none_bind, some_bind, sum_bind, bind_bind]
def r16_Check_s3 {R : Type} (bt4 : Zt4) (kr0 : Zt4 → Option R) : Option R :=
  (kr0 ((0 : Int), (0 : Int), ()))
theorem r16_Check_s3_bind {R S : Type} (F : R → Option S) (bt4 : Zt4) (kr0 : Zt4 → Option R) : (r16_Check_s3 bt4 kr0).bind F = r16_Check_s3 bt4 (fun a0 => (kr0 a0).bind F) := by
  simp only [r16_Check_s3, cond_bind, within_bind, none_bind, some_bind, sum_bind, bind_bind]
def r16_Check_l0 : Nat → Int → Int → Zt17 → Zt16 → Zt4 → Option (Sum Zt4 Zt4)
  | 0, _, _, _, _, _ => none
  | k + 1, v0, v1, v2, v3, v4 => r16_Check_s1 v0 v1 v2 v3 v4 (fun a0 => some (.inl a0)) (fun a0 a1 a2 a3 a4 => r16_Check_l0 k a0 a1 a2 a3 a4) (fun a0 => some (.inr a0))
def r16_Check (s_0 : Zt17) (m_1 : Zt16) : Option Zt4 :=
  r16_Check_s0 s_0 m_1 (fun a0 => some a0) (fun a0 a1 a2 a3 a4 => (r16_Check_l0 FUEL a0 a1 a2 a3 a4).bind fun e => (Sum.elim (fun (we : Zt4) => r16_Check_s2 we (fun a0 => some a0)) (fun (we : Zt4) => r16_Check_s3 we (fun a0 => some a0)) e))
end Groat
set_option linter.unusedVariables false
set_option linter.unusedSimpArgs false
set_option maxRecDepth 100000
namespace Groat
open Go Go.Ref
def r21_Great_s0 {R : Type} (m_0 : Zt23) (kr0 : Bool → Option R) (go0 : Int → Zt23 → Option R) : Option R :=
  (bif (decide ((300 : Int) < ((List.length m_0.1) : Int))) then (kr0 true) else (bif (decide ((300 : Int) < ((List.length m_0.2.1) : Int))) then (kr0 true) else (go0 (0 : Int) m_0)))
theorem r21_Great_s0_bind {R S : Type} (F : R → Option S) (m_0 : Zt23) (kr0 : Bool → Option R) (go0 : Int → Zt23 → Option R) : (r21_Great_s0 m_0 kr0 go0).bind F = r21_Great_s0 m_0 (fun a0 => (kr0 a0).bind F) (fun a0 a1 => (go0 a0 a1).bind F) := by
  simp only [r21_Great_s0, cond_bind, within_bind, none_bind, some_bind, sum_bind, bind_bind]
def r21_Great_s1 {R : Type} (t3 : Int) (bt1 : Zt23) (ex0_0 : Bool → Zt23 → Option R) (nx0 : Int → Zt23 → Option R) (ex0_1 : Zt23 → Option R) : Option R :=
  (bif (decide (t3 < ((List.length bt1.1) : Int))) then (within t3 (List.length bt1.1) (bif (decide ((100 : Int) < (((List.getD bt1.1 (t3).toNat ((bs []), (bs []), ())).1).size : Int))) then (ex0_0 true bt1) else (within t3 (List.length bt1.1) (bif (decide ((100 : Int) < (((List.getD bt1.1 (t3).toNat ((bs []), (bs []), ())).2.1).size : Int))) then (ex0_0 true bt1) else (nx0 (IntKind.i64.wrap (t3 + (1 : Int))) bt1))))) else (ex0_1 bt1))
theorem r21_Great_s1_bind {R S : Type} (F : R → Option S) (t3 : Int) (bt1 : Zt23) (ex0_0 : Bool → Zt23 → Option R) (nx0 : Int → Zt23 → Option R) (ex0_1 : Zt23 → Option R) : (r21_Great_s1 t3 bt1 ex0_0 nx0 ex0_1).bind F = r21_Great_s1 t3 bt1 (fun a0 a1 => (ex0_0 a0 a1).bind F) (fun a0 a1 => (nx0 a0 a1).bind F) (fun a0 => (ex0_1 a0).bind F) := by
  simp only [r21_Great_s1, cond_bind, within_bind, none_bind, some_bind, sum_bind, bind_bind]
def r21_Great_s2 {R : Type} (t2 : Bool) (bt1 : Zt23) (kr0 : Bool → Option R) : Option R :=
  (kr0 t2)
theorem r21_Great_s2_bind {R S : Type} (F : R → Option S) (t2 : Bool) (bt1 : Zt23) (kr0 : Bool → Option R) : (r21_Great_s2 t2 bt1 kr0).bind F = r21_Great_s2 t2 bt1 (fun a0 => (kr0 a0).bind F) := by
  simp only [r21_Great_s2, cond_bind, within_bind, none_bind, some_bind, sum_bind, bind_bind]
def r21_Great_s3 {R : Type} (bt1 : Zt23) (go1 : Int → Zt23 → Option R) : Option R :=
  (go1 (0 : Int) bt1)
theorem r21_Great_s3_bind {R S : Type} (F : R → Option S) (bt1 : Zt23) (go1 : Int → Zt23 → Option R) : (r21_Great_s3 bt1 go1).bind F = r21_Great_s3 bt1 (fun a0 a1 => (go1 a0 a1).bind F) := by
  simp only [r21_Great_s3, cond_bind, within_bind, none_bind, some_bind, sum_bind, bind_bind]
def r21_Great_s4 {R : Type} (t4 : Int) (bt1 : Zt23) (ex1_0 : Bool → Option R) (nx1 : Int → Zt23 → Option R) (ex1_1 : Option R) : Option R :=
  (bif (decide (t4 < ((List.length bt1.2.1) : Int))) then (within t4 (List.length bt1.2.1) ((r20_Great (List.getD bt1.2.1 (t4).toNat ((0 : Int), (0 : Int), (0 : Int), (bs []), ([] : List Zt8), ()))).bind fun r1 => (bif r1 then (ex1_0 true) else (nx1 (IntKind.i64.wrap (t4 + (1 : Int))) bt1)))) else (ex1_1))
theorem r21_Great_s4_bind {R S : Type} (F : R → Option S) (t4 : Int) (bt1 : Zt23) (ex1_0 : Bool → Option R) (nx1 : Int → Zt23 → Option R) (ex1_1 : Option R) : (r21_Great_s4 t4 bt1 ex1_0 nx1 ex1_1).bind F = r21_Great_s4 t4 bt1 (fun a0 => (ex1_0 a0).bind F) (fun a0 a1 => (nx1 a0 a1).bind F) ((ex1_1).bind F) := by
  simp only [r21_Great_s4, cond_bind, within_bind, none_bind, some_bind, sum_bind, bind_bind]
def r21_Great_s5 {R : Type} (t2 : Bool) (kr0 : Bool → Option R) : Option R :=
  (kr0 t2)
theorem r21_Great_s5_bind {R S : Type} (F : R → Option S) (t2 : Bool) (kr0 : Bool → Option R) : (r21_Great_s5 t2 kr0).bind F = r21_Great_s5 t2 (fun a0 => (kr0 a0).bind F) := by
  simp only [r21_Great_s5, cond_bind, within_bind, none_bind, some_bind, sum_bind, bind_bind]
def r21_Great_s6 {R : Type}  (kr0 : Bool → Option R) : Option R :=
  (kr0 false)
theorem r21_Great_s6_bind {R S : Type} (F : R → Option S)  (kr0 : Bool → Option R) : (r21_Great_s6 kr0).bind F = r21_Great_s6 (fun a0 => (kr0 a0).bind F) := by
  simp only [r21_Great_s6, cond_bind, within_bind, none_bind, some_bind, sum_bind, bind_bind]
def r21_Great_l0 : Nat → Int → Zt23 → Option (Sum (Bool × Zt23) Zt23)
  | 0, _, _ => none
  | k + 1, v0, v1 => r21_Great_s1 v0 v1 (fun a0 a1 => some (.inl (a0, a1))) (fun a0 a1 => r21_Great_l0 k a0 a1) (fun a0 => some (.inr a0))
def r21_Great_l1 : Nat → Int → Zt23 → Option (Sum Bool Unit)
  | 0, _, _ => none
  | k + 1, v0, v1 => r21_Great_s4 v0 v1 (fun a0 => some (.inl a0)) (fun a0 a1 => r21_Great_l1 k a0 a1) (some (.inr ()))
def r21_Great (m_0 : Zt23) : Option Bool :=
  r21_Great_s0 m_0 (fun a0 => some a0) (fun a0 a1 => (r21_Great_l0 FUEL a0 a1).bind fun e => (Sum.elim (fun (we : (Bool × Zt23)) => r21_Great_s2 we.1 we.2 (fun a0 => some a0)) (fun (we : Zt23) => r21_Great_s3 we (fun a0 a1 => (r21_Great_l1 FUEL a0 a1).bind fun e => (Sum.elim (fun (we : Bool) => r21_Great_s5 we (fun a0 => some a0)) (fun (we : Unit) => r21_Great_s6 (fun a0 => some a0)) e))) e))
def r21_Copy_s0 {R : Type} (m_0 : Zt23) (go0 : Int → Zt23 → Zt23 → Zt23 → Option R) : Option R :=
  ((r19_Copy m_0.1).bind fun r1 => (go0 (0 : Int) m_0 (([] : List Zt8), ([] : List Zt19), ()) (r1, ([] : List Zt19), ())))
theorem r21_Copy_s0_bind {R S : Type} (F : R → Option S) (m_0 : Zt23) (go0 : Int → Zt23 → Zt23 → Zt23 → Option R) : (r21_Copy_s0 m_0 go0).bind F = r21_Copy_s0 m_0 (fun a0 a1 a2 a3 => (go0 a0 a1 a2 a3).bind F) := by
  simp only [r21_Copy_s0, cond_bind, within_bind, none_bind, some_bind, sum_bind, bind_bind]
def r21_Copy_s1 {R : Type} (t4 : Int) (bt1 : Zt23) (bt2 : Zt23) (bt3 : Zt23) (nx0 : Int → Zt23 → Zt23 → Zt23 → Option R) (ex0_0 : Zt23 → Zt23 → Option R) : Option R :=
  (bif (decide (t4 < ((List.length bt1.2.1) : Int))) then (within t4 (List.length bt1.2.1) ((r20_Copy (List.getD bt1.2.1 (t4).toNat ((0 : Int), (0 : Int), (0 : Int), (bs []), ([] : List Zt8), ()))).bind fun r2 => (bif (decide (((List.length bt3.2.1) + (List.length ([r2] : List Zt19))) * 64 ≤ 140737488355328)) then (nx0 (IntKind.i64.wrap (t4 + (1 : Int))) bt1 bt2 (bt3.1, (bt3.2.1 ++ ([r2] : List Zt19)), ())) else none))) else (ex0_0 bt2 bt3))
theorem r21_Copy_s1_bind {R S : Type} (F : R → Option S) (t4 : Int) (bt1 : Zt23) (bt2 : Zt23) (bt3 : Zt23) (nx0 : Int → Zt23 → Zt23 → Zt23 → Option R) (ex0_0 : Zt23 → Zt23 → Option R) : (r21_Copy_s1 t4 bt1 bt2 bt3 nx0 ex0_0).bind F = r21_Copy_s1 t4 bt1 bt2 bt3 (fun a0 a1 a2 a3 => (nx0 a0 a1 a2 a3).bind F) (fun a0 a1 => (ex0_0 a0 a1).bind F) := by
  simp only [r21_Copy_s1, cond_bind, within_bind, none_bind, some_bind, sum_bind, bind_bind]
def r21_Copy_s2 {R : Type} (bt2 : Zt23) (bt3 : Zt23) (kr0 : Zt23 → Option R) : Option R :=
  (kr0 bt3)
theorem r21_Copy_s2_bind {R S : Type} (F : R → Option S) (bt2 : Zt23) (bt3 : Zt23) (kr0 : Zt23 → Option R) : (r21_Copy_s2 bt2 bt3 kr0).bind F = r21_Copy_s2 bt2 bt3 (fun a0 => (kr0 a0).bind F) := by
  simp only [r21_Copy_s2, cond_bind, within_bind, none_bind, some_bind, sum_bind, bind_bind]
def r21_Copy_l0 : Nat → Int → Zt23 → Zt23 → Zt23 → Option (Zt23 × Zt23)
  | 0, _, _, _, _ => none
  | k + 1, v0, v1, v2, v3 => r21_Copy_s1 v0 v1 v2 v3 (fun a0 a1 a2 a3 => r21_Copy_l0 k a0 a1 a2 a3) (fun a0 a1 => some (a0, a1))
def r21_Copy (m_0 : Zt23) : Option Zt23 :=
  r21_Copy_s0 m_0 (fun a0 a1 a2 a3 => (r21_Copy_l0 FUEL a0 a1 a2 a3).bind fun e => r21_Copy_s2 e.1 e.2 (fun a0 => some a0))
def r21_version_s0 {R : Type} (m_0 : ByteArray) (v_1 : Int) (kr0 : Bool → Option R) : Option R :=
  ((r15_Right m_0).bind fun r1 => (bif r1 then (within (0 : Int) (m_0).size (kr0 (decide ((IntKind.i64.wrap ((IntKind.i64.wrap (byteAt m_0 ((0 : Int)).toNat)) - (48 : Int))) = v_1)))) else (kr0 false)))
theorem r21_version_s0_bind {R S : Type} (F : R → Option S) (m_0 : ByteArray) (v_1 : Int) (kr0 : Bool → Option R) : (r21_version_s0 m_0 v_1 kr0).bind F = r21_version_s0 m_0 v_1 (fun a0 => (kr0 a0).bind F) := by
  simp only [r21_version_s0, cond_bind, within_bind, none_bind, some_bind, sum_bind, bind_bind]
def r21_version (m_0 : ByteArray) (v_1 : Int) : Option Bool :=
  r21_version_s0 m_0 v_1 (fun a0 => some a0)
def r21_twice_s0 {R : Type} (a_0 : Zt19) (b_1 : Zt19) (kr0 : Bool → Option R) : Option R :=
  (bif (!(decide (a_0.2.1 = (0 : Int)))) then (bif (decide (a_0.2.1 = b_1.2.1)) then (kr0 true) else (bif (!(decide (a_0.2.2.1 = (0 : Int)))) then (kr0 (decide (a_0.2.2.1 = b_1.2.2.1))) else (kr0 false))) else (bif (!(decide (a_0.2.2.1 = (0 : Int)))) then (kr0 (decide (a_0.2.2.1 = b_1.2.2.1))) else (kr0 false)))
theorem r21_twice_s0_bind {R S : Type} (F : R → Option S) (a_0 : Zt19) (b_1 : Zt19) (kr0 : Bool → Option R) : (r21_twice_s0 a_0 b_1 kr0).bind F = r21_twice_s0 a_0 b_1 (fun a0 => (kr0 a0).bind F) := by
  simp only [r21_twice_s0, cond_bind, within_bind, none_bind, some_bind, sum_bind, bind_bind]
def r21_twice (a_0 : Zt19) (b_1 : Zt19) : Option Bool :=
  r21_twice_s0 a_0 b_1 (fun a0 => some a0)
def r21_Check_s0 {R : Type} (m_0 : Zt23) (a_1 : Zt17) (b_2 : Zt17) (kr0 : Int → Int → Int → Option R) (go0 : Int → Zt23 → Zt17 → Zt17 → Option R) : Option R :=
  ((r13_Right a_1).bind fun r1 => (bif (!r1) then (kr0 (1 : Int) (1 : Int) (0 : Int)) else ((r13_Right b_2).bind fun r2 => (bif (!r2) then (kr0 (1 : Int) (1 : Int) (1 : Int)) else (bif (decide ((256 : Int) < ((List.length m_0.1) : Int))) then (kr0 (5 : Int) (2 : Int) (256 : Int)) else (go0 (0 : Int) m_0 a_1 b_2))))))
theorem r21_Check_s0_bind {R S : Type} (F : R → Option S) (m_0 : Zt23) (a_1 : Zt17) (b_2 : Zt17) (kr0 : Int → Int → Int → Option R) (go0 : Int → Zt23 → Zt17 → Zt17 → Option R) : (r21_Check_s0 m_0 a_1 b_2 kr0 go0).bind F = r21_Check_s0 m_0 a_1 b_2 (fun a0 a1 a2 => (kr0 a0 a1 a2).bind F) (fun a0 a1 a2 a3 => (go0 a0 a1 a2 a3).bind F) := by
  simp only [r21_Check_s0, cond_bind, within_bind, none_bind, some_bind, sum_bind, bind_bind]
def r21_Check_s1 {R : Type} (t9 : Int) (bt3 : Zt23) (bt4 : Zt17) (bt5 : Zt17) (ex0_0 : Int → Int → Int → Zt23 → Zt17 → Zt17 → Option R) (nx0 : Int → Zt23 → Zt17 → Zt17 → Option R) (ex0_1 : Zt23 → Zt17 → Zt17 → Option R) : Option R :=
  (bif (decide (t9 < ((List.length bt3.1) : Int))) then (within t9 (List.length bt3.1) ((r21_version (List.getD bt3.1 (t9).toNat ((bs []), (bs []), ())).1 bt4.2.1).bind fun r3 => (bif (!r3) then (ex0_0 (7 : Int) (2 : Int) t9 bt3 bt4 bt5) else ((r21_version (List.getD bt3.1 (t9).toNat ((bs []), (bs []), ())).2.1 bt5.2.1).bind fun r4 => (bif (!r4) then (ex0_0 (7 : Int) (2 : Int) t9 bt3 bt4 bt5) else ((r15_Request (List.getD bt3.1 (t9).toNat ((bs []), (bs []), ())).1).bind fun r5 => ((r15_Request (List.getD bt3.1 (t9).toNat ((bs []), (bs []), ())).2.1).bind fun r6 => (bif (!(r5 == r6)) then (ex0_0 (7 : Int) (2 : Int) t9 bt3 bt4 bt5) else (bif (decide ((0 : Int) ≤ t9)) then (bif (decide (t9 ≤ (((List.length bt3.1) : Nat) : Int))) then ((r19_Apply (List.drop 0 (List.take (t9).toNat bt3.1)) (List.getD bt3.1 (t9).toNat ((bs []), (bs []), ())).1).bind fun r7 => (bif r7.2 then (ex0_0 (10 : Int) (2 : Int) t9 bt3 bt4 bt5) else (nx0 (IntKind.i64.wrap (t9 + (1 : Int))) bt3 bt4 bt5))) else none) else none))))))))) else (ex0_1 bt3 bt4 bt5))
theorem r21_Check_s1_bind {R S : Type} (F : R → Option S) (t9 : Int) (bt3 : Zt23) (bt4 : Zt17) (bt5 : Zt17) (ex0_0 : Int → Int → Int → Zt23 → Zt17 → Zt17 → Option R) (nx0 : Int → Zt23 → Zt17 → Zt17 → Option R) (ex0_1 : Zt23 → Zt17 → Zt17 → Option R) : (r21_Check_s1 t9 bt3 bt4 bt5 ex0_0 nx0 ex0_1).bind F = r21_Check_s1 t9 bt3 bt4 bt5 (fun a0 a1 a2 a3 a4 a5 => (ex0_0 a0 a1 a2 a3 a4 a5).bind F) (fun a0 a1 a2 a3 => (nx0 a0 a1 a2 a3).bind F) (fun a0 a1 a2 => (ex0_1 a0 a1 a2).bind F) := by
  simp only [r21_Check_s1, cond_bind, within_bind, none_bind, some_bind, sum_bind, bind_bind]
def r21_Check_s2 {R : Type} (t6 : Int) (t7 : Int) (t8 : Int) (bt3 : Zt23) (bt4 : Zt17) (bt5 : Zt17) (kr0 : Int → Int → Int → Option R) : Option R :=
  (kr0 t6 t7 t8)
theorem r21_Check_s2_bind {R S : Type} (F : R → Option S) (t6 : Int) (t7 : Int) (t8 : Int) (bt3 : Zt23) (bt4 : Zt17) (bt5 : Zt17) (kr0 : Int → Int → Int → Option R) : (r21_Check_s2 t6 t7 t8 bt3 bt4 bt5 kr0).bind F = r21_Check_s2 t6 t7 t8 bt3 bt4 bt5 (fun a0 a1 a2 => (kr0 a0 a1 a2).bind F) := by
  simp only [r21_Check_s2, cond_bind, within_bind, none_bind, some_bind, sum_bind, bind_bind]
def r21_Check_s3 {R : Type} (bt3 : Zt23) (bt4 : Zt17) (bt5 : Zt17) (kr0 : Int → Int → Int → Option R) (go1 : Int → Zt23 → Zt17 → Zt17 → Option R) : Option R :=
  (bif (decide ((256 : Int) < ((List.length bt3.2.1) : Int))) then (kr0 (5 : Int) (3 : Int) (256 : Int)) else (go1 (0 : Int) bt3 bt4 bt5))
theorem r21_Check_s3_bind {R S : Type} (F : R → Option S) (bt3 : Zt23) (bt4 : Zt17) (bt5 : Zt17) (kr0 : Int → Int → Int → Option R) (go1 : Int → Zt23 → Zt17 → Zt17 → Option R) : (r21_Check_s3 bt3 bt4 bt5 kr0 go1).bind F = r21_Check_s3 bt3 bt4 bt5 (fun a0 a1 a2 => (kr0 a0 a1 a2).bind F) (fun a0 a1 a2 a3 => (go1 a0 a1 a2 a3).bind F) := by
  simp only [r21_Check_s3, cond_bind, within_bind, none_bind, some_bind, sum_bind, bind_bind]
def r21_Check_s4 {R : Type} (t13 : Int) (bt3 : Zt23) (bt4 : Zt17) (bt5 : Zt17) (ex1_0 : Int → Int → Int → Option R) (go2 : Int → Int → Zt23 → Zt17 → Zt17 → Option R) (ex1_1 : Option R) : Option R :=
  (bif (decide (t13 < ((List.length bt3.2.1) : Int))) then (within t13 (List.length bt3.2.1) ((r20_Check (List.getD bt3.2.1 (t13).toNat ((0 : Int), (0 : Int), (0 : Int), (bs []), ([] : List Zt8), ())) bt4 bt5).bind fun r8 => (bif (!(decide (r8 = (0 : Int)))) then (ex1_0 r8 (3 : Int) t13) else (go2 t13 (0 : Int) bt3 bt4 bt5)))) else (ex1_1))
theorem r21_Check_s4_bind {R S : Type} (F : R → Option S) (t13 : Int) (bt3 : Zt23) (bt4 : Zt17) (bt5 : Zt17) (ex1_0 : Int → Int → Int → Option R) (go2 : Int → Int → Zt23 → Zt17 → Zt17 → Option R) (ex1_1 : Option R) : (r21_Check_s4 t13 bt3 bt4 bt5 ex1_0 go2 ex1_1).bind F = r21_Check_s4 t13 bt3 bt4 bt5 (fun a0 a1 a2 => (ex1_0 a0 a1 a2).bind F) (fun a0 a1 a2 a3 a4 => (go2 a0 a1 a2 a3 a4).bind F) ((ex1_1).bind F) := by
  simp only [r21_Check_s4, cond_bind, within_bind, none_bind, some_bind, sum_bind, bind_bind]
def r21_Check_s5 {R : Type} (t6 : Int) (t7 : Int) (t8 : Int) (kr0 : Int → Int → Int → Option R) : Option R :=
  (kr0 t6 t7 t8)
theorem r21_Check_s5_bind {R S : Type} (F : R → Option S) (t6 : Int) (t7 : Int) (t8 : Int) (kr0 : Int → Int → Int → Option R) : (r21_Check_s5 t6 t7 t8 kr0).bind F = r21_Check_s5 t6 t7 t8 (fun a0 a1 a2 => (kr0 a0 a1 a2).bind F) := by
  simp only [r21_Check_s5, cond_bind, within_bind, none_bind, some_bind, sum_bind, bind_bind]
def r21_Check_s6 {R : Type}  (kr0 : Int → Int → Int → Option R) : Option R :=
  (kr0 (0 : Int) (0 : Int) (0 : Int))
theorem r21_Check_s6_bind {R S : Type} (F : R → Option S)  (kr0 : Int → Int → Int → Option R) : (r21_Check_s6 kr0).bind F = r21_Check_s6 (fun a0 a1 a2 => (kr0 a0 a1 a2).bind F) := by
  simp only [r21_Check_s6, cond_bind, within_bind, none_bind, some_bind, sum_bind, bind_bind]
def r21_Check_s7 {R : Type} (t13 : Int) (t15 : Int) (bt3 : Zt23) (bt4 : Zt17) (bt5 : Zt17) (ex2_0 : Int → Int → Int → Int → Zt23 → Zt17 → Zt17 → Option R) (nx2 : Int → Int → Zt23 → Zt17 → Zt17 → Option R) (ex2_1 : Int → Zt23 → Zt17 → Zt17 → Option R) : Option R :=
  (bif (decide (t15 < t13)) then (within t15 (List.length bt3.2.1) (within t13 (List.length bt3.2.1) ((r21_twice (List.getD bt3.2.1 (t15).toNat ((0 : Int), (0 : Int), (0 : Int), (bs []), ([] : List Zt8), ())) (List.getD bt3.2.1 (t13).toNat ((0 : Int), (0 : Int), (0 : Int), (bs []), ([] : List Zt8), ()))).bind fun r9 => (bif r9 then (ex2_0 (10 : Int) (3 : Int) t13 t13 bt3 bt4 bt5) else (nx2 t13 (IntKind.i64.wrap (t15 + (1 : Int))) bt3 bt4 bt5))))) else (ex2_1 t13 bt3 bt4 bt5))
theorem r21_Check_s7_bind {R S : Type} (F : R → Option S) (t13 : Int) (t15 : Int) (bt3 : Zt23) (bt4 : Zt17) (bt5 : Zt17) (ex2_0 : Int → Int → Int → Int → Zt23 → Zt17 → Zt17 → Option R) (nx2 : Int → Int → Zt23 → Zt17 → Zt17 → Option R) (ex2_1 : Int → Zt23 → Zt17 → Zt17 → Option R) : (r21_Check_s7 t13 t15 bt3 bt4 bt5 ex2_0 nx2 ex2_1).bind F = r21_Check_s7 t13 t15 bt3 bt4 bt5 (fun a0 a1 a2 a3 a4 a5 a6 => (ex2_0 a0 a1 a2 a3 a4 a5 a6).bind F) (fun a0 a1 a2 a3 a4 => (nx2 a0 a1 a2 a3 a4).bind F) (fun a0 a1 a2 a3 => (ex2_1 a0 a1 a2 a3).bind F) := by
  simp only [r21_Check_s7, cond_bind, within_bind, none_bind, some_bind, sum_bind, bind_bind]
def r21_Check_s8 {R : Type} (t6 : Int) (t7 : Int) (t8 : Int) (t13 : Int) (bt3 : Zt23) (bt4 : Zt17) (bt5 : Zt17) (ex1_0 : Int → Int → Int → Option R) : Option R :=
  (ex1_0 t6 t7 t8)
theorem r21_Check_s8_bind {R S : Type} (F : R → Option S) (t6 : Int) (t7 : Int) (t8 : Int) (t13 : Int) (bt3 : Zt23) (bt4 : Zt17) (bt5 : Zt17) (ex1_0 : Int → Int → Int → Option R) : (r21_Check_s8 t6 t7 t8 t13 bt3 bt4 bt5 ex1_0).bind F = r21_Check_s8 t6 t7 t8 t13 bt3 bt4 bt5 (fun a0 a1 a2 => (ex1_0 a0 a1 a2).bind F) := by
  simp only [r21_Check_s8, cond_bind, within_bind, none_bind, some_bind, sum_bind, bind_bind]
def r21_Check_s9 {R : Type} (t13 : Int) (bt3 : Zt23) (bt4 : Zt17) (bt5 : Zt17) (nx1 : Int → Zt23 → Zt17 → Zt17 → Option R) : Option R :=
  (nx1 (IntKind.i64.wrap (t13 + (1 : Int))) bt3 bt4 bt5)
theorem r21_Check_s9_bind {R S : Type} (F : R → Option S) (t13 : Int) (bt3 : Zt23) (bt4 : Zt17) (bt5 : Zt17) (nx1 : Int → Zt23 → Zt17 → Zt17 → Option R) : (r21_Check_s9 t13 bt3 bt4 bt5 nx1).bind F = r21_Check_s9 t13 bt3 bt4 bt5 (fun a0 a1 a2 a3 => (nx1 a0 a1 a2 a3).bind F) := by
  simp only [r21_Check_s9, cond_bind, within_bind, none_bind, some_bind, sum_bind, bind_bind]
def r21_Check_l0 : Nat → Int → Zt23 → Zt17 → Zt17 → Option (Sum Zt26 Zt25)
  | 0, _, _, _, _ => none
  | k + 1, v0, v1, v2, v3 => r21_Check_s1 v0 v1 v2 v3 (fun a0 a1 a2 a3 a4 a5 => some (.inl (a0, a1, a2, a3, a4, a5))) (fun a0 a1 a2 a3 => r21_Check_l0 k a0 a1 a2 a3) (fun a0 a1 a2 => some (.inr (a0, a1, a2)))
def r21_Check_l2 : Nat → Int → Int → Zt23 → Zt17 → Zt17 → Option (Sum (Int × Int × Int × Int × Zt23 × Zt17 × Zt17) (Int × Zt23 × Zt17 × Zt17))
  | 0, _, _, _, _, _ => none
  | k + 1, v0, v1, v2, v3, v4 => r21_Check_s7 v0 v1 v2 v3 v4 (fun a0 a1 a2 a3 a4 a5 a6 => some (.inl (a0, a1, a2, a3, a4, a5, a6))) (fun a0 a1 a2 a3 a4 => r21_Check_l2 k a0 a1 a2 a3 a4) (fun a0 a1 a2 a3 => some (.inr (a0, a1, a2, a3)))
def r21_Check_l1 : Nat → Int → Zt23 → Zt17 → Zt17 → Option (Sum Zt0 Unit)
  | 0, _, _, _, _ => none
  | k + 1, v0, v1, v2, v3 => r21_Check_s4 v0 v1 v2 v3 (fun a0 a1 a2 => some (.inl (a0, a1, a2))) (fun a0 a1 a2 a3 a4 => (r21_Check_l2 FUEL a0 a1 a2 a3 a4).bind fun e => (Sum.elim (fun (we : (Int × Int × Int × Int × Zt23 × Zt17 × Zt17)) => r21_Check_s8 we.1 we.2.1 we.2.2.1 we.2.2.2.1 we.2.2.2.2.1 we.2.2.2.2.2.1 we.2.2.2.2.2.2 (fun a0 a1 a2 => some (.inl (a0, a1, a2)))) (fun (we : (Int × Zt23 × Zt17 × Zt17)) => r21_Check_s9 we.1 we.2.1 we.2.2.1 we.2.2.2 (fun a0 a1 a2 a3 => r21_Check_l1 k a0 a1 a2 a3)) e)) (some (.inr ()))
def r21_Check (m_0 : Zt23) (a_1 : Zt17) (b_2 : Zt17) : Option Zt0 :=
  r21_Check_s0 m_0 a_1 b_2 (fun a0 a1 a2 => some (a0, a1, a2)) (fun a0 a1 a2 a3 => (r21_Check_l0 FUEL a0 a1 a2 a3).bind fun e => (Sum.elim (fun (we : Zt26) => r21_Check_s2 we.1 we.2.1 we.2.2.1 we.2.2.2.1 we.2.2.2.2.1 we.2.2.2.2.2 (fun a0 a1 a2 => some (a0, a1, a2))) (fun (we : Zt25) => r21_Check_s3 we.1 we.2.1 we.2.2 (fun a0 a1 a2 => some (a0, a1, a2)) (fun a0 a1 a2 a3 => (r21_Check_l1 FUEL a0 a1 a2 a3).bind fun e => (Sum.elim (fun (we : Zt0) => r21_Check_s5 we.1 we.2.1 we.2.2 (fun a0 a1 a2 => some (a0, a1, a2))) (fun (we : Unit) => r21_Check_s6 (fun a0 a1 a2 => some (a0, a1, a2))) e))) e))
def r21_Right_s0 {R : Type} (m_0 : Zt23) (a_1 : Zt17) (b_2 : Zt17) (kr0 : Bool → Option R) : Option R :=
  ((r21_Check m_0 a_1 b_2).bind fun r1 => (kr0 (decide (r1.1 = (0 : Int)))))
theorem r21_Right_s0_bind {R S : Type} (F : R → Option S) (m_0 : Zt23) (a_1 : Zt17) (b_2 : Zt17) (kr0 : Bool → Option R) : (r21_Right_s0 m_0 a_1 b_2 kr0).bind F = r21_Right_s0 m_0 a_1 b_2 (fun a0 => (kr0 a0).bind F) := by
  simp only [r21_Right_s0, cond_bind, within_bind, none_bind, some_bind, sum_bind, bind_bind]
def r21_Right (m_0 : Zt23) (a_1 : Zt17) (b_2 : Zt17) : Option Bool :=
  r21_Right_s0 m_0 a_1 b_2 (fun a0 => some a0)
def r21_rule_s0 {R : Type} (m_0 : Zt23) (no_1 : Int) (go0 : Int → Int → Zt23 → Option R) : Option R :=
  (go0 no_1 (0 : Int) m_0)
theorem r21_rule_s0_bind {R S : Type} (F : R → Option S) (m_0 : Zt23) (no_1 : Int) (go0 : Int → Int → Zt23 → Option R) : (r21_rule_s0 m_0 no_1 go0).bind F = r21_rule_s0 m_0 no_1 (fun a0 a1 a2 => (go0 a0 a1 a2).bind F) := by
  simp only [r21_rule_s0, cond_bind, within_bind, none_bind, some_bind, sum_bind, bind_bind]
def r21_rule_s1 {R : Type} (no_1 : Int) (t5 : Int) (bt2 : Zt23) (ex0_0 : Int → Option R) (nx0 : Int → Int → Zt23 → Option R) (ex0_1 : Option R) : Option R :=
  (bif (decide (t5 < ((List.length bt2.2.1) : Int))) then (within t5 (List.length bt2.2.1) (bif (decide ((List.getD bt2.2.1 (t5).toNat ((0 : Int), (0 : Int), (0 : Int), (bs []), ([] : List Zt8), ())).2.1 = no_1)) then (ex0_0 t5) else (nx0 no_1 (IntKind.i64.wrap (t5 + (1 : Int))) bt2))) else (ex0_1))
theorem r21_rule_s1_bind {R S : Type} (F : R → Option S) (no_1 : Int) (t5 : Int) (bt2 : Zt23) (ex0_0 : Int → Option R) (nx0 : Int → Int → Zt23 → Option R) (ex0_1 : Option R) : (r21_rule_s1 no_1 t5 bt2 ex0_0 nx0 ex0_1).bind F = r21_rule_s1 no_1 t5 bt2 (fun a0 => (ex0_0 a0).bind F) (fun a0 a1 a2 => (nx0 a0 a1 a2).bind F) ((ex0_1).bind F) := by
  simp only [r21_rule_s1, cond_bind, within_bind, none_bind, some_bind, sum_bind, bind_bind]
def r21_rule_s2 {R : Type} (t4 : Int) (kr0 : Int → Option R) : Option R :=
  (kr0 t4)
theorem r21_rule_s2_bind {R S : Type} (F : R → Option S) (t4 : Int) (kr0 : Int → Option R) : (r21_rule_s2 t4 kr0).bind F = r21_rule_s2 t4 (fun a0 => (kr0 a0).bind F) := by
  simp only [r21_rule_s2, cond_bind, within_bind, none_bind, some_bind, sum_bind, bind_bind]
def r21_rule_s3 {R : Type}  (kr0 : Int → Option R) : Option R :=
  (kr0 (-1 : Int))
theorem r21_rule_s3_bind {R S : Type} (F : R → Option S)  (kr0 : Int → Option R) : (r21_rule_s3 kr0).bind F = r21_rule_s3 (fun a0 => (kr0 a0).bind F) := by
  simp only [r21_rule_s3, cond_bind, within_bind, none_bind, some_bind, sum_bind, bind_bind]
def r21_rule_l0 : Nat → Int → Int → Zt23 → Option (Sum Int Unit)
  | 0, _, _, _ => none
  | k + 1, v0, v1, v2 => r21_rule_s1 v0 v1 v2 (fun a0 => some (.inl a0)) (fun a0 a1 a2 => r21_rule_l0 k a0 a1 a2) (some (.inr ()))
def r21_rule (m_0 : Zt23) (no_1 : Int) : Option Int :=
  r21_rule_s0 m_0 no_1 (fun a0 a1 a2 => (r21_rule_l0 FUEL a0 a1 a2).bind fun e => (Sum.elim (fun (we : Int) => r21_rule_s2 we (fun a0 => some a0)) (fun (we : Unit) => r21_rule_s3 (fun a0 => some a0)) e))
def r21_Translate_s0 {R : Type} (m_0 : Zt23) (a_1 : Zt17) (b_2 : Zt17) (x_3 : Zt16) (kr0 : Zt16 → Zt4 → Option R) (go0 : ByteArray → Zt10 → Int → Zt23 → Zt17 → Zt16 → Zt16 → Zt4 → Zt16 → Option R) : Option R :=
  ((r21_Right m_0 a_1 b_2).bind fun r1 => (bif (!r1) then (kr0 ((bs []), ([] : List Zt6), ()) ((1 : Int), (-1 : Int), ())) else ((r16_Check a_1 x_3).bind fun r2 => (bif (!(decide (r2.1 = (0 : Int)))) then (kr0 ((bs []), ([] : List Zt6), ()) r2) else ((r19_Apply m_0.1 x_3.1).bind fun r3 => (bif (!r3.2) then (kr0 ((bs []), ([] : List Zt6), ()) ((7 : Int), (0 : Int), ())) else (go0 r3.1 ([] : List Zt6) (0 : Int) m_0 b_2 x_3 ((bs []), ([] : List Zt6), ()) ((0 : Int), (0 : Int), ()) ((bs []), ([] : List Zt6), ()))))))))
theorem r21_Translate_s0_bind {R S : Type} (F : R → Option S) (m_0 : Zt23) (a_1 : Zt17) (b_2 : Zt17) (x_3 : Zt16) (kr0 : Zt16 → Zt4 → Option R) (go0 : ByteArray → Zt10 → Int → Zt23 → Zt17 → Zt16 → Zt16 → Zt4 → Zt16 → Option R) : (r21_Translate_s0 m_0 a_1 b_2 x_3 kr0 go0).bind F = r21_Translate_s0 m_0 a_1 b_2 x_3 (fun a0 a1 => (kr0 a0 a1).bind F) (fun a0 a1 a2 a3 a4 a5 a6 a7 a8 => (go0 a0 a1 a2 a3 a4 a5 a6 a7 a8).bind F) := by
  simp only [r21_Translate_s0, cond_bind, within_bind, none_bind, some_bind, sum_bind, bind_bind]
def r21_Translate_s1 {R : Type} (t12 : ByteArray) (t14 : Zt10) (t15 : Int) (bt4 : Zt23) (bt6 : Zt17) (bt7 : Zt16) (bt8 : Zt16) (bt9 : Zt4) (bt10 : Zt16) (ex0_0 : ByteArray → Zt10 → Zt23 → Zt16 → Zt4 → Option R) (nx0 : ByteArray → Zt10 → Int → Zt23 → Zt17 → Zt16 → Zt16 → Zt4 → Zt16 → Option R) (ex0_1 : ByteArray → Zt10 → Zt23 → Zt16 → Zt4 → Option R) : Option R :=
  (bif (decide (t15 < ((List.length bt7.2.1) : Int))) then (within t15 (List.length bt7.2.1) ((r21_rule bt4 (List.getD bt7.2.1 (t15).toNat ((0 : Int), (bs []), ())).1).bind fun r4 => (bif (decide (r4 < (0 : Int))) then (within t15 (List.length bt7.2.1) (ex0_0 t12 t14 bt4 bt10 ((9 : Int), (List.getD bt7.2.1 (t15).toNat ((0 : Int), (bs []), ())).1, ()))) else (within r4 (List.length bt4.2.1) (within t15 (List.length bt7.2.1) ((r20_Apply (List.getD bt4.2.1 (r4).toNat ((0 : Int), (0 : Int), (0 : Int), (bs []), ([] : List Zt8), ())) bt6 (List.getD bt7.2.1 (t15).toNat ((0 : Int), (bs []), ())).2.1).bind fun r5 => (bif (!(decide (r5.2 = (0 : Int)))) then (within t15 (List.length bt7.2.1) (ex0_0 t12 t14 bt4 bt10 (r5.2, (List.getD bt7.2.1 (t15).toNat ((0 : Int), (bs []), ())).1, ()))) else (bif (decide (((List.length t14) + (List.length ([r5.1] : List Zt6))) * 24 ≤ 140737488355328)) then (nx0 t12 (t14 ++ ([r5.1] : List Zt6)) (IntKind.i64.wrap (t15 + (1 : Int))) bt4 bt6 bt7 bt8 bt9 bt10) else none)))))))) else (ex0_1 t12 t14 bt4 bt8 bt9))
theorem r21_Translate_s1_bind {R S : Type} (F : R → Option S) (t12 : ByteArray) (t14 : Zt10) (t15 : Int) (bt4 : Zt23) (bt6 : Zt17) (bt7 : Zt16) (bt8 : Zt16) (bt9 : Zt4) (bt10 : Zt16) (ex0_0 : ByteArray → Zt10 → Zt23 → Zt16 → Zt4 → Option R) (nx0 : ByteArray → Zt10 → Int → Zt23 → Zt17 → Zt16 → Zt16 → Zt4 → Zt16 → Option R) (ex0_1 : ByteArray → Zt10 → Zt23 → Zt16 → Zt4 → Option R) : (r21_Translate_s1 t12 t14 t15 bt4 bt6 bt7 bt8 bt9 bt10 ex0_0 nx0 ex0_1).bind F = r21_Translate_s1 t12 t14 t15 bt4 bt6 bt7 bt8 bt9 bt10 (fun a0 a1 a2 a3 a4 => (ex0_0 a0 a1 a2 a3 a4).bind F) (fun a0 a1 a2 a3 a4 a5 a6 a7 a8 => (nx0 a0 a1 a2 a3 a4 a5 a6 a7 a8).bind F) (fun a0 a1 a2 a3 a4 => (ex0_1 a0 a1 a2 a3 a4).bind F) := by
  simp only [r21_Translate_s1, cond_bind, within_bind, none_bind, some_bind, sum_bind, bind_bind]
def r21_Translate_s2 {R : Type} (t12 : ByteArray) (t14 : Zt10) (bt4 : Zt23) (bt8 : Zt16) (bt9 : Zt4) (kr0 : Zt16 → Zt4 → Option R) : Option R :=
  (kr0 bt8 bt9)
theorem r21_Translate_s2_bind {R S : Type} (F : R → Option S) (t12 : ByteArray) (t14 : Zt10) (bt4 : Zt23) (bt8 : Zt16) (bt9 : Zt4) (kr0 : Zt16 → Zt4 → Option R) : (r21_Translate_s2 t12 t14 bt4 bt8 bt9 kr0).bind F = r21_Translate_s2 t12 t14 bt4 bt8 bt9 (fun a0 a1 => (kr0 a0 a1).bind F) := by
  simp only [r21_Translate_s2, cond_bind, within_bind, none_bind, some_bind, sum_bind, bind_bind]
def r21_Translate_s3 {R : Type} (t12 : ByteArray) (t14 : Zt10) (bt4 : Zt23) (bt8 : Zt16) (bt9 : Zt4) (go1 : ByteArray → Zt10 → Int → Zt23 → Zt16 → Zt4 → Option R) : Option R :=
  (go1 t12 t14 (0 : Int) bt4 bt8 bt9)
theorem r21_Translate_s3_bind {R S : Type} (F : R → Option S) (t12 : ByteArray) (t14 : Zt10) (bt4 : Zt23) (bt8 : Zt16) (bt9 : Zt4) (go1 : ByteArray → Zt10 → Int → Zt23 → Zt16 → Zt4 → Option R) : (r21_Translate_s3 t12 t14 bt4 bt8 bt9 go1).bind F = r21_Translate_s3 t12 t14 bt4 bt8 bt9 (fun a0 a1 a2 a3 a4 a5 => (go1 a0 a1 a2 a3 a4 a5).bind F) := by
  simp only [r21_Translate_s3, cond_bind, within_bind, none_bind, some_bind, sum_bind, bind_bind]
def r21_Translate_s4 {R : Type} (t12 : ByteArray) (t14 : Zt10) (t19 : Int) (bt4 : Zt23) (bt8 : Zt16) (bt9 : Zt4) (nx1 : ByteArray → Zt10 → Int → Zt23 → Zt16 → Zt4 → Option R) (ex1_0 : ByteArray → Zt10 → Zt16 → Zt4 → Option R) : Option R :=
  (bif (decide (t19 < ((List.length bt4.2.1) : Int))) then (within t19 (List.length bt4.2.1) (bif (decide ((List.getD bt4.2.1 (t19).toNat ((0 : Int), (0 : Int), (0 : Int), (bs []), ([] : List Zt8), ())).1 = (3 : Int))) then (within t19 (List.length bt4.2.1) (within t19 (List.length bt4.2.1) (bif (decide (((List.length t14) + (List.length ([((List.getD bt4.2.1 (t19).toNat ((0 : Int), (0 : Int), (0 : Int), (bs []), ([] : List Zt8), ())).2.2.1, (List.getD bt4.2.1 (t19).toNat ((0 : Int), (0 : Int), (0 : Int), (bs []), ([] : List Zt8), ())).2.2.2.1, ())] : List Zt6))) * 24 ≤ 140737488355328)) then (nx1 t12 (t14 ++ ([((List.getD bt4.2.1 (t19).toNat ((0 : Int), (0 : Int), (0 : Int), (bs []), ([] : List Zt8), ())).2.2.1, (List.getD bt4.2.1 (t19).toNat ((0 : Int), (0 : Int), (0 : Int), (bs []), ([] : List Zt8), ())).2.2.2.1, ())] : List Zt6)) (IntKind.i64.wrap (t19 + (1 : Int))) bt4 bt8 bt9) else none))) else (nx1 t12 t14 (IntKind.i64.wrap (t19 + (1 : Int))) bt4 bt8 bt9))) else (ex1_0 t12 t14 bt8 bt9))
theorem r21_Translate_s4_bind {R S : Type} (F : R → Option S) (t12 : ByteArray) (t14 : Zt10) (t19 : Int) (bt4 : Zt23) (bt8 : Zt16) (bt9 : Zt4) (nx1 : ByteArray → Zt10 → Int → Zt23 → Zt16 → Zt4 → Option R) (ex1_0 : ByteArray → Zt10 → Zt16 → Zt4 → Option R) : (r21_Translate_s4 t12 t14 t19 bt4 bt8 bt9 nx1 ex1_0).bind F = r21_Translate_s4 t12 t14 t19 bt4 bt8 bt9 (fun a0 a1 a2 a3 a4 a5 => (nx1 a0 a1 a2 a3 a4 a5).bind F) (fun a0 a1 a2 a3 => (ex1_0 a0 a1 a2 a3).bind F) := by
  simp only [r21_Translate_s4, cond_bind, within_bind, none_bind, some_bind, sum_bind, bind_bind]
def r21_Translate_s5 {R : Type} (t12 : ByteArray) (t14 : Zt10) (bt8 : Zt16) (bt9 : Zt4) (go2 : Zt10 → Int → Zt16 → Zt4 → Zt16 → Option R) : Option R :=
  (go2 t14 (2 : Int) bt8 bt9 (t12, ([] : List Zt6), ()))
theorem r21_Translate_s5_bind {R S : Type} (F : R → Option S) (t12 : ByteArray) (t14 : Zt10) (bt8 : Zt16) (bt9 : Zt4) (go2 : Zt10 → Int → Zt16 → Zt4 → Zt16 → Option R) : (r21_Translate_s5 t12 t14 bt8 bt9 go2).bind F = r21_Translate_s5 t12 t14 bt8 bt9 (fun a0 a1 a2 a3 a4 => (go2 a0 a1 a2 a3 a4).bind F) := by
  simp only [r21_Translate_s5, cond_bind, within_bind, none_bind, some_bind, sum_bind, bind_bind]
def r21_Translate_s6 {R : Type} (t14 : Zt10) (t21 : Int) (bt8 : Zt16) (bt9 : Zt4) (bt20 : Zt16) (go3 : Zt10 → Int → Int → Zt16 → Zt4 → Zt16 → Option R) (ex2_0 : Zt16 → Zt4 → Zt16 → Option R) : Option R :=
  (bif (decide (t21 ≤ (128 : Int))) then (go3 t14 t21 (0 : Int) bt8 bt9 bt20) else (ex2_0 bt8 bt9 bt20))
theorem r21_Translate_s6_bind {R S : Type} (F : R → Option S) (t14 : Zt10) (t21 : Int) (bt8 : Zt16) (bt9 : Zt4) (bt20 : Zt16) (go3 : Zt10 → Int → Int → Zt16 → Zt4 → Zt16 → Option R) (ex2_0 : Zt16 → Zt4 → Zt16 → Option R) : (r21_Translate_s6 t14 t21 bt8 bt9 bt20 go3 ex2_0).bind F = r21_Translate_s6 t14 t21 bt8 bt9 bt20 (fun a0 a1 a2 a3 a4 a5 => (go3 a0 a1 a2 a3 a4 a5).bind F) (fun a0 a1 a2 => (ex2_0 a0 a1 a2).bind F) := by
  simp only [r21_Translate_s6, cond_bind, within_bind, none_bind, some_bind, sum_bind, bind_bind]
def r21_Translate_s7 {R : Type} (bt8 : Zt16) (bt9 : Zt4) (bt20 : Zt16) (kr0 : Zt16 → Zt4 → Option R) : Option R :=
  (kr0 bt20 ((0 : Int), (0 : Int), ()))
theorem r21_Translate_s7_bind {R S : Type} (F : R → Option S) (bt8 : Zt16) (bt9 : Zt4) (bt20 : Zt16) (kr0 : Zt16 → Zt4 → Option R) : (r21_Translate_s7 bt8 bt9 bt20 kr0).bind F = r21_Translate_s7 bt8 bt9 bt20 (fun a0 a1 => (kr0 a0 a1).bind F) := by
  simp only [r21_Translate_s7, cond_bind, within_bind, none_bind, some_bind, sum_bind, bind_bind]
def r21_Translate_s8 {R : Type} (t14 : Zt10) (t21 : Int) (t22 : Int) (bt8 : Zt16) (bt9 : Zt4) (bt20 : Zt16) (nx3 : Zt10 → Int → Int → Zt16 → Zt4 → Zt16 → Option R) (ex3_0 : Zt10 → Int → Zt16 → Zt4 → Zt16 → Option R) : Option R :=
  (bif (decide (t22 < ((List.length t14) : Int))) then (within t22 (List.length t14) (bif (decide ((List.getD t14 (t22).toNat ((0 : Int), (bs []), ())).1 = t21)) then (within t22 (List.length t14) (bif (decide (((List.length bt20.2.1) + (List.length ([(List.getD t14 (t22).toNat ((0 : Int), (bs []), ()))] : List Zt6))) * 24 ≤ 140737488355328)) then (nx3 t14 t21 (IntKind.i64.wrap (t22 + (1 : Int))) bt8 bt9 (bt20.1, (bt20.2.1 ++ ([(List.getD t14 (t22).toNat ((0 : Int), (bs []), ()))] : List Zt6)), ())) else none)) else (nx3 t14 t21 (IntKind.i64.wrap (t22 + (1 : Int))) bt8 bt9 bt20))) else (ex3_0 t14 t21 bt8 bt9 bt20))
theorem r21_Translate_s8_bind {R S : Type} (F : R → Option S) (t14 : Zt10) (t21 : Int) (t22 : Int) (bt8 : Zt16) (bt9 : Zt4) (bt20 : Zt16) (nx3 : Zt10 → Int → Int → Zt16 → Zt4 → Zt16 → Option R) (ex3_0 : Zt10 → Int → Zt16 → Zt4 → Zt16 → Option R) : (r21_Translate_s8 t14 t21 t22 bt8 bt9 bt20 nx3 ex3_0).bind F = r21_Translate_s8 t14 t21 t22 bt8 bt9 bt20 (fun a0 a1 a2 a3 a4 a5 => (nx3 a0 a1 a2 a3 a4 a5).bind F) (fun a0 a1 a2 a3 a4 => (ex3_0 a0 a1 a2 a3 a4).bind F) := by
  simp only [r21_Translate_s8, cond_bind, within_bind, none_bind, some_bind, sum_bind, bind_bind]
def r21_Translate_s9 {R : Type} (t14 : Zt10) (t21 : Int) (bt8 : Zt16) (bt9 : Zt4) (bt20 : Zt16) (nx2 : Zt10 → Int → Zt16 → Zt4 → Zt16 → Option R) : Option R :=
  (nx2 t14 (IntKind.i64.wrap (t21 + (1 : Int))) bt8 bt9 bt20)
theorem r21_Translate_s9_bind {R S : Type} (F : R → Option S) (t14 : Zt10) (t21 : Int) (bt8 : Zt16) (bt9 : Zt4) (bt20 : Zt16) (nx2 : Zt10 → Int → Zt16 → Zt4 → Zt16 → Option R) : (r21_Translate_s9 t14 t21 bt8 bt9 bt20 nx2).bind F = r21_Translate_s9 t14 t21 bt8 bt9 bt20 (fun a0 a1 a2 a3 a4 => (nx2 a0 a1 a2 a3 a4).bind F) := by
  simp only [r21_Translate_s9, cond_bind, within_bind, none_bind, some_bind, sum_bind, bind_bind]
def r21_Translate_l0 : Nat → ByteArray → Zt10 → Int → Zt23 → Zt17 → Zt16 → Zt16 → Zt4 → Zt16 → Option (Sum Zt24 Zt24)
  | 0, _, _, _, _, _, _, _, _, _ => none
  | k + 1, v0, v1, v2, v3, v4, v5, v6, v7, v8 => r21_Translate_s1 v0 v1 v2 v3 v4 v5 v6 v7 v8 (fun a0 a1 a2 a3 a4 => some (.inl (a0, a1, a2, a3, a4))) (fun a0 a1 a2 a3 a4 a5 a6 a7 a8 => r21_Translate_l0 k a0 a1 a2 a3 a4 a5 a6 a7 a8) (fun a0 a1 a2 a3 a4 => some (.inr (a0, a1, a2, a3, a4)))
def r21_Translate_l1 : Nat → ByteArray → Zt10 → Int → Zt23 → Zt16 → Zt4 → Option (ByteArray × Zt10 × Zt16 × Zt4)
  | 0, _, _, _, _, _, _ => none
  | k + 1, v0, v1, v2, v3, v4, v5 => r21_Translate_s4 v0 v1 v2 v3 v4 v5 (fun a0 a1 a2 a3 a4 a5 => r21_Translate_l1 k a0 a1 a2 a3 a4 a5) (fun a0 a1 a2 a3 => some (a0, a1, a2, a3))
def r21_Translate_l3 : Nat → Zt10 → Int → Int → Zt16 → Zt4 → Zt16 → Option (Zt10 × Int × Zt16 × Zt4 × Zt16)
  | 0, _, _, _, _, _, _ => none
  | k + 1, v0, v1, v2, v3, v4, v5 => r21_Translate_s8 v0 v1 v2 v3 v4 v5 (fun a0 a1 a2 a3 a4 a5 => r21_Translate_l3 k a0 a1 a2 a3 a4 a5) (fun a0 a1 a2 a3 a4 => some (a0, a1, a2, a3, a4))
def r21_Translate_l2 : Nat → Zt10 → Int → Zt16 → Zt4 → Zt16 → Option Zt22
  | 0, _, _, _, _, _ => none
  | k + 1, v0, v1, v2, v3, v4 => r21_Translate_s6 v0 v1 v2 v3 v4 (fun a0 a1 a2 a3 a4 a5 => (r21_Translate_l3 FUEL a0 a1 a2 a3 a4 a5).bind fun e => r21_Translate_s9 e.1 e.2.1 e.2.2.1 e.2.2.2.1 e.2.2.2.2 (fun a0 a1 a2 a3 a4 => r21_Translate_l2 k a0 a1 a2 a3 a4)) (fun a0 a1 a2 => some (a0, a1, a2))
def r21_Translate (m_0 : Zt23) (a_1 : Zt17) (b_2 : Zt17) (x_3 : Zt16) : Option (Zt16 × Zt4) :=
  r21_Translate_s0 m_0 a_1 b_2 x_3 (fun a0 a1 => some (a0, a1)) (fun a0 a1 a2 a3 a4 a5 a6 a7 a8 => (r21_Translate_l0 FUEL a0 a1 a2 a3 a4 a5 a6 a7 a8).bind fun e => (Sum.elim (fun (we : Zt24) => r21_Translate_s2 we.1 we.2.1 we.2.2.1 we.2.2.2.1 we.2.2.2.2 (fun a0 a1 => some (a0, a1))) (fun (we : Zt24) => r21_Translate_s3 we.1 we.2.1 we.2.2.1 we.2.2.2.1 we.2.2.2.2 (fun a0 a1 a2 a3 a4 a5 => (r21_Translate_l1 FUEL a0 a1 a2 a3 a4 a5).bind fun e => r21_Translate_s5 e.1 e.2.1 e.2.2.1 e.2.2.2 (fun a0 a1 a2 a3 a4 => (r21_Translate_l2 FUEL a0 a1 a2 a3 a4).bind fun e => r21_Translate_s7 e.1 e.2.1 e.2.2 (fun a0 a1 => some (a0, a1))))) e))
end Groat
set_option linter.unusedVariables false
set_option linter.unusedSimpArgs false
set_option maxRecDepth 100000
namespace Groat
open Go Go.Ref
def mti_Right_s0 {R : Type} (m_0 : ByteArray) (kr0 : Bool → Option R) : Option R :=
  (bif (decide (((m_0).size : Int) = (4 : Int))) then ((digits_All m_0).bind fun r1 => (kr0 r1)) else (kr0 false))
theorem mti_Right_s0_bind {R S : Type} (F : R → Option S) (m_0 : ByteArray) (kr0 : Bool → Option R) : (mti_Right_s0 m_0 kr0).bind F = mti_Right_s0 m_0 (fun a0 => (kr0 a0).bind F) := by
  simp only [mti_Right_s0, cond_bind, within_bind, none_bind, some_bind, sum_bind, bind_bind]
def mti_Right (m_0 : ByteArray) : Option Bool :=
  mti_Right_s0 m_0 (fun a0 => some a0)
def mti_Version_s0 {R : Type} (m_0 : ByteArray) (kr0 : Int → Bool → Option R) : Option R :=
  ((mti_Right m_0).bind fun r1 => (bif (!r1) then (kr0 (0 : Int) false) else (within (0 : Int) (m_0).size (kr0 (IntKind.i64.wrap (IntKind.u8.wrap ((byteAt m_0 ((0 : Int)).toNat) - (48 : Int)))) true))))
theorem mti_Version_s0_bind {R S : Type} (F : R → Option S) (m_0 : ByteArray) (kr0 : Int → Bool → Option R) : (mti_Version_s0 m_0 kr0).bind F = mti_Version_s0 m_0 (fun a0 a1 => (kr0 a0 a1).bind F) := by
  simp only [mti_Version_s0, cond_bind, within_bind, none_bind, some_bind, sum_bind, bind_bind]
def mti_Version (m_0 : ByteArray) : Option (Int × Bool) :=
  mti_Version_s0 m_0 (fun a0 a1 => some (a0, a1))
def mti_Request_s0 {R : Type} (m_0 : ByteArray) (kr0 : Bool → Option R) : Option R :=
  ((mti_Right m_0).bind fun r1 => (bif r1 then (within (2 : Int) (m_0).size (bif (decide ((byteAt m_0 ((2 : Int)).toNat) = (48 : Int))) then (kr0 true) else (within (2 : Int) (m_0).size (kr0 (decide ((byteAt m_0 ((2 : Int)).toNat) = (50 : Int))))))) else (kr0 false)))
theorem mti_Request_s0_bind {R S : Type} (F : R → Option S) (m_0 : ByteArray) (kr0 : Bool → Option R) : (mti_Request_s0 m_0 kr0).bind F = mti_Request_s0 m_0 (fun a0 => (kr0 a0).bind F) := by
  simp only [mti_Request_s0, cond_bind, within_bind, none_bind, some_bind, sum_bind, bind_bind]
def mti_Request (m_0 : ByteArray) : Option Bool :=
  mti_Request_s0 m_0 (fun a0 => some a0)
end Groat
set_option linter.unusedVariables false
set_option linter.unusedSimpArgs false
set_option maxRecDepth 100000
namespace Groat
open Go Go.Ref
def msg_Check_s0 {R : Type} (s_0 : Zt17) (m_1 : Zt16) (kr0 : Zt4 → Option R) (go0 : Int → Zt10 → Int → Int → Zt17 → Zt4 → Option R) : Option R :=
  ((schema_Check s_0).bind fun r1 => (bif (!(decide (r1.1 = (0 : Int)))) then (kr0 ((1 : Int), (-1 : Int), ())) else ((mti_Version m_1.1).bind fun r2 => (bif (!r2.2) then (kr0 ((7 : Int), (0 : Int), ())) else (bif (!(decide (r2.1 = s_0.2.1))) then (kr0 ((7 : Int), (0 : Int), ())) else (go0 (0 : Int) m_1.2.1 ((List.length m_1.2.1) : Int) (0 : Int) s_0 ((0 : Int), (0 : Int), ())))))))
theorem msg_Check_s0_bind {R S : Type} (F : R → Option S) (s_0 : Zt17) (m_1 : Zt16) (kr0 : Zt4 → Option R) (go0 : Int → Zt10 → Int → Int → Zt17 → Zt4 → Option R) : (msg_Check_s0 s_0 m_1 kr0 go0).bind F = msg_Check_s0 s_0 m_1 (fun a0 => (kr0 a0).bind F) (fun a0 a1 a2 a3 a4 a5 => (go0 a0 a1 a2 a3 a4 a5).bind F) := by
  simp only [msg_Check_s0, cond_bind, within_bind, none_bind, some_bind, sum_bind, bind_bind]
def msg_Check_s1 {R : Type} (t9 : Int) (t39 : Zt10) (t40 : Int) (t41 : Int) (bt2 : Zt17) (bt4 : Zt4) (ex0_0 : Zt4 → Option R) (nx0 : Int → Zt10 → Int → Int → Zt17 → Zt4 → Option R) (ex0_1 : Zt4 → Option R) : Option R :=
  (bif (decide (t41 < t40)) then (within t41 (List.length t39) (bif (decide ((List.getD t39 (t41).toNat ((0 : Int), (bs []), ())).1 ≤ t9)) then (ex0_0 ((11 : Int), (List.getD t39 (t41).toNat ((0 : Int), (bs []), ())).1, ())) else ((schema_Find bt2 (List.getD t39 (t41).toNat ((0 : Int), (bs []), ())).1).bind fun r3 => (bif (!r3.2) then (ex0_0 ((9 : Int), (List.getD t39 (t41).toNat ((0 : Int), (bs []), ())).1, ())) else ((spec_Value r3.1 (List.getD t39 (t41).toNat ((0 : Int), (bs []), ())).2.1).bind fun r4 => (bif (!(decide (r4 = (0 : Int)))) then (ex0_0 (r4, (List.getD t39 (t41).toNat ((0 : Int), (bs []), ())).1, ())) else (nx0 (List.getD t39 (t41).toNat ((0 : Int), (bs []), ())).1 t39 t40 (IntKind.i64.wrap (t41 + (1 : Int))) bt2 bt4))))))) else (ex0_1 bt4))
theorem msg_Check_s1_bind {R S : Type} (F : R → Option S) (t9 : Int) (t39 : Zt10) (t40 : Int) (t41 : Int) (bt2 : Zt17) (bt4 : Zt4) (ex0_0 : Zt4 → Option R) (nx0 : Int → Zt10 → Int → Int → Zt17 → Zt4 → Option R) (ex0_1 : Zt4 → Option R) : (msg_Check_s1 t9 t39 t40 t41 bt2 bt4 ex0_0 nx0 ex0_1).bind F = msg_Check_s1 t9 t39 t40 t41 bt2 bt4 (fun a0 => (ex0_0 a0).bind F) (fun a0 a1 a2 a3 a4 a5 => (nx0 a0 a1 a2 a3 a4 a5).bind F) (fun a0 => (ex0_1 a0).bind F) := by
  simp only [msg_Check_s1, cond_bind, within_bind, none_bind, some_bind, sum_bind, bind_bind]
def msg_Check_s2 {R : Type} (bt4 : Zt4) (kr0 : Zt4 → Option R) : Option R :=
  (kr0 bt4)
theorem msg_Check_s2_bind {R S : Type} (F : R → Option S) (bt4 : Zt4) (kr0 : Zt4 → Option R) : (msg_Check_s2 bt4 kr0).bind F = msg_Check_s2 bt4 (fun a0 => (kr0 a0).bind F) := by
  simp only [msg_Check_s2, cond_bind, within_bind, none_bind, some_bind, sum_bind, bind_bind]
def msg_Check_s3 {R : Type} (bt4 : Zt4) (kr0 : Zt4 → Option R) : Option R :=
  (kr0 ((0 : Int), (0 : Int), ()))
theorem msg_Check_s3_bind {R S : Type} (F : R → Option S) (bt4 : Zt4) (kr0 : Zt4 → Option R) : (msg_Check_s3 bt4 kr0).bind F = msg_Check_s3 bt4 (fun a0 => (kr0 a0).bind F) := by
  simp only [msg_Check_s3, cond_bind, within_bind, none_bind, some_bind, sum_bind, bind_bind]
def msg_Check_l0 : Nat → Int → Zt10 → Int → Int → Zt17 → Zt4 → Option (Sum Zt4 Zt4)
  | 0, _, _, _, _, _, _ => none
  | k + 1, v0, v1, v2, v3, v4, v5 => msg_Check_s1 v0 v1 v2 v3 v4 v5 (fun a0 => some (.inl a0)) (fun a0 a1 a2 a3 a4 a5 => msg_Check_l0 k a0 a1 a2 a3 a4 a5) (fun a0 => some (.inr a0))
def msg_Check (s_0 : Zt17) (m_1 : Zt16) : Option Zt4 :=
  msg_Check_s0 s_0 m_1 (fun a0 => some a0) (fun a0 a1 a2 a3 a4 a5 => (msg_Check_l0 FUEL a0 a1 a2 a3 a4 a5).bind fun e => (Sum.elim (fun (we : Zt4) => msg_Check_s2 we (fun a0 => some a0)) (fun (we : Zt4) => msg_Check_s3 we (fun a0 => some a0)) e))
def msg_Without_s0 {R : Type} (m_0 : Zt16) (no_1 : Int) (go0 : Int → Zt10 → Int → Int → Zt16 → Zt16 → Option R) : Option R :=
  (go0 no_1 m_0.2.1 ((List.length m_0.2.1) : Int) (0 : Int) ((bs []), ([] : List Zt6), ()) (m_0.1, ([] : List Zt6), ()))
theorem msg_Without_s0_bind {R S : Type} (F : R → Option S) (m_0 : Zt16) (no_1 : Int) (go0 : Int → Zt10 → Int → Int → Zt16 → Zt16 → Option R) : (msg_Without_s0 m_0 no_1 go0).bind F = msg_Without_s0 m_0 no_1 (fun a0 a1 a2 a3 a4 a5 => (go0 a0 a1 a2 a3 a4 a5).bind F) := by
  simp only [msg_Without_s0, cond_bind, within_bind, none_bind, some_bind, sum_bind, bind_bind]
def msg_Without_s1 {R : Type} (no_1 : Int) (t12 : Zt10) (t13 : Int) (t14 : Int) (bt4 : Zt16) (bt5 : Zt16) (nx0 : Int → Zt10 → Int → Int → Zt16 → Zt16 → Option R) (ex0_0 : Zt16 → Zt16 → Option R) : Option R :=
  (bif (decide (t14 < t13)) then (within t14 (List.length t12) (bif (!(decide ((List.getD t12 (t14).toNat ((0 : Int), (bs []), ())).1 = no_1))) then (bif (decide (((List.length bt5.2.1) + (List.length ([(List.getD t12 (t14).toNat ((0 : Int), (bs []), ()))] : List Zt6))) * 24 ≤ 140737488355328)) then (nx0 no_1 t12 t13 (IntKind.i64.wrap (t14 + (1 : Int))) bt4 (bt5.1, (bt5.2.1 ++ ([(List.getD t12 (t14).toNat ((0 : Int), (bs []), ()))] : List Zt6)), ())) else none) else (nx0 no_1 t12 t13 (IntKind.i64.wrap (t14 + (1 : Int))) bt4 bt5))) else (ex0_0 bt4 bt5))
theorem msg_Without_s1_bind {R S : Type} (F : R → Option S) (no_1 : Int) (t12 : Zt10) (t13 : Int) (t14 : Int) (bt4 : Zt16) (bt5 : Zt16) (nx0 : Int → Zt10 → Int → Int → Zt16 → Zt16 → Option R) (ex0_0 : Zt16 → Zt16 → Option R) : (msg_Without_s1 no_1 t12 t13 t14 bt4 bt5 nx0 ex0_0).bind F = msg_Without_s1 no_1 t12 t13 t14 bt4 bt5 (fun a0 a1 a2 a3 a4 a5 => (nx0 a0 a1 a2 a3 a4 a5).bind F) (fun a0 a1 => (ex0_0 a0 a1).bind F) := by
  simp only [msg_Without_s1, cond_bind, within_bind, none_bind, some_bind, sum_bind, bind_bind]
def msg_Without_s2 {R : Type} (bt4 : Zt16) (bt5 : Zt16) (kr0 : Zt16 → Option R) : Option R :=
  (kr0 bt5)
theorem msg_Without_s2_bind {R S : Type} (F : R → Option S) (bt4 : Zt16) (bt5 : Zt16) (kr0 : Zt16 → Option R) : (msg_Without_s2 bt4 bt5 kr0).bind F = msg_Without_s2 bt4 bt5 (fun a0 => (kr0 a0).bind F) := by
  simp only [msg_Without_s2, cond_bind, within_bind, none_bind, some_bind, sum_bind, bind_bind]
def msg_Without_l0 : Nat → Int → Zt10 → Int → Int → Zt16 → Zt16 → Option (Zt16 × Zt16)
  | 0, _, _, _, _, _, _ => none
  | k + 1, v0, v1, v2, v3, v4, v5 => msg_Without_s1 v0 v1 v2 v3 v4 v5 (fun a0 a1 a2 a3 a4 a5 => msg_Without_l0 k a0 a1 a2 a3 a4 a5) (fun a0 a1 => some (a0, a1))
def msg_Without (m_0 : Zt16) (no_1 : Int) : Option Zt16 :=
  msg_Without_s0 m_0 no_1 (fun a0 a1 a2 a3 a4 a5 => (msg_Without_l0 FUEL a0 a1 a2 a3 a4 a5).bind fun e => msg_Without_s2 e.1 e.2 (fun a0 => some a0))
def msg_With_1_s0 {R : Type} (x_0 : Zt6) (free_1 : Int) (kr0 : Bool → Int → Option R) : Option R :=
  (kr0 (decide (free_1 < x_0.1)) free_1)
theorem msg_With_1_s0_bind {R S : Type} (F : R → Option S) (x_0 : Zt6) (free_1 : Int) (kr0 : Bool → Int → Option R) : (msg_With_1_s0 x_0 free_1 kr0).bind F = msg_With_1_s0 x_0 free_1 (fun a0 a1 => (kr0 a0 a1).bind F) := by
  simp only [msg_With_1_s0, cond_bind, within_bind, none_bind, some_bind, sum_bind, bind_bind]
def msg_With_1 (x_0 : Zt6) (free_1 : Int) : Option (Bool × Int) :=
  msg_With_1_s0 x_0 free_1 (fun a0 a1 => some (a0, a1))
def slices_IndexFunc_api_Value_api_Value_at_msg_With_1_s0 {R : Type} (a_0 : Zt10) (a_1 : Int) (go0 : Zt10 → Int → Int → Int → Option R) : Option R :=
  (go0 a_0 ((List.length a_0) : Int) (0 : Int) a_1)
theorem slices_IndexFunc_api_Value_api_Value_at_msg_With_1_s0_bind {R S : Type} (F : R → Option S) (a_0 : Zt10) (a_1 : Int) (go0 : Zt10 → Int → Int → Int → Option R) : (slices_IndexFunc_api_Value_api_Value_at_msg_With_1_s0 a_0 a_1 go0).bind F = slices_IndexFunc_api_Value_api_Value_at_msg_With_1_s0 a_0 a_1 (fun a0 a1 a2 a3 => (go0 a0 a1 a2 a3).bind F) := by
  simp only [slices_IndexFunc_api_Value_api_Value_at_msg_With_1_s0, cond_bind, within_bind, none_bind, some_bind, sum_bind, bind_bind]
def slices_IndexFunc_api_Value_api_Value_at_msg_With_1_s1 {R : Type} (a_0 : Zt10) (t7 : Int) (t8 : Int) (recv : Int) (ex0_0 : Int → Int → Option R) (nx0 : Zt10 → Int → Int → Int → Option R) (ex0_1 : Int → Option R) : Option R :=
  (bif (decide (t8 < t7)) then (within t8 (List.length a_0) ((msg_With_1 (List.getD a_0 (t8).toNat ((0 : Int), (bs []), ())) recv).bind fun r1 => (bif r1.1 then (ex0_0 t8 r1.2) else (nx0 a_0 t7 (IntKind.i64.wrap (t8 + (1 : Int))) r1.2)))) else (ex0_1 recv))
theorem slices_IndexFunc_api_Value_api_Value_at_msg_With_1_s1_bind {R S : Type} (F : R → Option S) (a_0 : Zt10) (t7 : Int) (t8 : Int) (recv : Int) (ex0_0 : Int → Int → Option R) (nx0 : Zt10 → Int → Int → Int → Option R) (ex0_1 : Int → Option R) : (slices_IndexFunc_api_Value_api_Value_at_msg_With_1_s1 a_0 t7 t8 recv ex0_0 nx0 ex0_1).bind F = slices_IndexFunc_api_Value_api_Value_at_msg_With_1_s1 a_0 t7 t8 recv (fun a0 a1 => (ex0_0 a0 a1).bind F) (fun a0 a1 a2 a3 => (nx0 a0 a1 a2 a3).bind F) (fun a0 => (ex0_1 a0).bind F) := by
  simp only [slices_IndexFunc_api_Value_api_Value_at_msg_With_1_s1, cond_bind, within_bind, none_bind, some_bind, sum_bind, bind_bind]
def slices_IndexFunc_api_Value_api_Value_at_msg_With_1_s2 {R : Type} (t4 : Int) (recv : Int) (kr0 : Int → Int → Option R) : Option R :=
  (kr0 t4 recv)
theorem slices_IndexFunc_api_Value_api_Value_at_msg_With_1_s2_bind {R S : Type} (F : R → Option S) (t4 : Int) (recv : Int) (kr0 : Int → Int → Option R) : (slices_IndexFunc_api_Value_api_Value_at_msg_With_1_s2 t4 recv kr0).bind F = slices_IndexFunc_api_Value_api_Value_at_msg_With_1_s2 t4 recv (fun a0 a1 => (kr0 a0 a1).bind F) := by
  simp only [slices_IndexFunc_api_Value_api_Value_at_msg_With_1_s2, cond_bind, within_bind, none_bind, some_bind, sum_bind, bind_bind]
def slices_IndexFunc_api_Value_api_Value_at_msg_With_1_s3 {R : Type} (recv : Int) (kr0 : Int → Int → Option R) : Option R :=
  (kr0 (-1 : Int) recv)
theorem slices_IndexFunc_api_Value_api_Value_at_msg_With_1_s3_bind {R S : Type} (F : R → Option S) (recv : Int) (kr0 : Int → Int → Option R) : (slices_IndexFunc_api_Value_api_Value_at_msg_With_1_s3 recv kr0).bind F = slices_IndexFunc_api_Value_api_Value_at_msg_With_1_s3 recv (fun a0 a1 => (kr0 a0 a1).bind F) := by
  simp only [slices_IndexFunc_api_Value_api_Value_at_msg_With_1_s3, cond_bind, within_bind, none_bind, some_bind, sum_bind, bind_bind]
def slices_IndexFunc_api_Value_api_Value_at_msg_With_1_l0 : Nat → Zt10 → Int → Int → Int → Option (Sum (Int × Int) Int)
  | 0, _, _, _, _ => none
  | k + 1, v0, v1, v2, v3 => slices_IndexFunc_api_Value_api_Value_at_msg_With_1_s1 v0 v1 v2 v3 (fun a0 a1 => some (.inl (a0, a1))) (fun a0 a1 a2 a3 => slices_IndexFunc_api_Value_api_Value_at_msg_With_1_l0 k a0 a1 a2 a3) (fun a0 => some (.inr a0))
def slices_IndexFunc_api_Value_api_Value_at_msg_With_1 (a_0 : Zt10) (a_1 : Int) : Option (Int × Int) :=
  slices_IndexFunc_api_Value_api_Value_at_msg_With_1_s0 a_0 a_1 (fun a0 a1 a2 a3 => (slices_IndexFunc_api_Value_api_Value_at_msg_With_1_l0 FUEL a0 a1 a2 a3).bind fun e => (Sum.elim (fun (we : (Int × Int)) => slices_IndexFunc_api_Value_api_Value_at_msg_With_1_s2 we.1 we.2 (fun a0 a1 => some (a0, a1))) (fun (we : Int) => slices_IndexFunc_api_Value_api_Value_at_msg_With_1_s3 we (fun a0 a1 => some (a0, a1))) e))
def msg_With_s0 {R : Type} (m_0 : Zt16) (no_1 : Int) (text_2 : ByteArray) (kr0 : Zt16 → Option R) : Option R :=
  ((msg_Without m_0 no_1).bind fun r1 => ((slices_IndexFunc_api_Value_api_Value_at_msg_With_1 r1.2.1 no_1).bind fun r2 => (bif (decide (r2.1 < (0 : Int))) then (bif (decide ((IntKind.i64.wrap (((List.length r1.2.1) : Int) + (1 : Int))) = (IntKind.i64.wrap (((List.length r1.2.1) : Int) + (1 : Int))))) then (bif (decide ((0 : Int) ≤ (IntKind.i64.wrap (((List.length r1.2.1) : Int) + (1 : Int))))) then (bif (decide ((IntKind.i64.wrap (((List.length r1.2.1) : Int) + (1 : Int))) * 24 ≤ 140737488355328)) then (bif (decide ((0 : Int) ≤ ((List.length r1.2.1) : Int))) then (bif (decide (((List.length r1.2.1) : Int) ≤ (((List.length r1.2.1) : Nat) : Int))) then (bif (Nat.beq ((IntKind.i64.wrap (((List.length r1.2.1) : Int) + (1 : Int)))).toNat (List.length (List.replicate ((IntKind.i64.wrap (((List.length r1.2.1) : Int) + (1 : Int)))).toNat ((0 : Int), (bs []), ())))) then (within ((List.length r1.2.1) : Int) ((IntKind.i64.wrap (((List.length r1.2.1) : Int) + (1 : Int)))).toNat (bif (Nat.ble ((((List.length r1.2.1) : Int)).toNat + 1) (List.length (putL (List.replicate ((IntKind.i64.wrap (((List.length r1.2.1) : Int) + (1 : Int)))).toNat ((0 : Int), (bs []), ())) (List.take ((IntKind.i64.wrap (((List.length r1.2.1) : Int) + (1 : Int)))).toNat (List.drop 0 (List.take (((List.length r1.2.1) : Int)).toNat r1.2.1))) 0))) then (bif (decide ((0 : Int) ≤ (IntKind.i64.wrap (((List.length r1.2.1) : Int) + (1 : Int))))) then (bif (decide ((IntKind.i64.wrap (((List.length r1.2.1) : Int) + (1 : Int))) ≤ ((((IntKind.i64.wrap (((List.length r1.2.1) : Int) + (1 : Int)))).toNat : Nat) : Int))) then (bif (decide ((0 : Int) ≤ ((List.length r1.2.1) : Int))) then (bif (decide (((List.length r1.2.1) : Int) ≤ (((List.length r1.2.1) : Nat) : Int))) then (bif (Nat.beq ((IntKind.i64.wrap (((List.length r1.2.1) : Int) + (1 : Int)))).toNat (List.length (List.set (putL (List.replicate ((IntKind.i64.wrap (((List.length r1.2.1) : Int) + (1 : Int)))).toNat ((0 : Int), (bs []), ())) (List.take ((IntKind.i64.wrap (((List.length r1.2.1) : Int) + (1 : Int)))).toNat (List.drop 0 (List.take (((List.length r1.2.1) : Int)).toNat r1.2.1))) 0) (((List.length r1.2.1) : Int)).toNat (r2.2, text_2, ())))) then (bif (Nat.ble ((IntKind.i64.wrap (((List.length r1.2.1) : Int) + (1 : Int)))).toNat ((IntKind.i64.wrap (((List.length r1.2.1) : Int) + (1 : Int)))).toNat) then (bif (Nat.beq ((IntKind.i64.wrap (((List.length r1.2.1) : Int) + (1 : Int)))).toNat (List.length (putL (List.set (putL (List.replicate ((IntKind.i64.wrap (((List.length r1.2.1) : Int) + (1 : Int)))).toNat ((0 : Int), (bs []), ())) (List.take ((IntKind.i64.wrap (((List.length r1.2.1) : Int) + (1 : Int)))).toNat (List.drop 0 (List.take (((List.length r1.2.1) : Int)).toNat r1.2.1))) 0) (((List.length r1.2.1) : Int)).toNat (r2.2, text_2, ())) (List.take (((IntKind.i64.wrap (((List.length r1.2.1) : Int) + (1 : Int)))).toNat - ((IntKind.i64.wrap (((List.length r1.2.1) : Int) + (1 : Int)))).toNat) (List.drop (((List.length r1.2.1) : Int)).toNat (List.take (List.length r1.2.1) r1.2.1))) ((IntKind.i64.wrap (((List.length r1.2.1) : Int) + (1 : Int)))).toNat))) then (kr0 (m_0.1, (putL (List.set (putL (List.replicate ((IntKind.i64.wrap (((List.length r1.2.1) : Int) + (1 : Int)))).toNat ((0 : Int), (bs []), ())) (List.take ((IntKind.i64.wrap (((List.length r1.2.1) : Int) + (1 : Int)))).toNat (List.drop 0 (List.take (((List.length r1.2.1) : Int)).toNat r1.2.1))) 0) (((List.length r1.2.1) : Int)).toNat (r2.2, text_2, ())) (List.take (((IntKind.i64.wrap (((List.length r1.2.1) : Int) + (1 : Int)))).toNat - ((IntKind.i64.wrap (((List.length r1.2.1) : Int) + (1 : Int)))).toNat) (List.drop (((List.length r1.2.1) : Int)).toNat (List.take (List.length r1.2.1) r1.2.1))) ((IntKind.i64.wrap (((List.length r1.2.1) : Int) + (1 : Int)))).toNat), ())) else none) else none) else none) else none) else none) else none) else none) else none)) else none) else none) else none) else none) else none) else none) else (bif (decide ((IntKind.i64.wrap (((List.length r1.2.1) : Int) + (1 : Int))) = (IntKind.i64.wrap (((List.length r1.2.1) : Int) + (1 : Int))))) then (bif (decide ((0 : Int) ≤ (IntKind.i64.wrap (((List.length r1.2.1) : Int) + (1 : Int))))) then (bif (decide ((IntKind.i64.wrap (((List.length r1.2.1) : Int) + (1 : Int))) * 24 ≤ 140737488355328)) then (bif (decide ((0 : Int) ≤ r2.1)) then (bif (decide (r2.1 ≤ (((List.length r1.2.1) : Nat) : Int))) then (bif (Nat.beq ((IntKind.i64.wrap (((List.length r1.2.1) : Int) + (1 : Int)))).toNat (List.length (List.replicate ((IntKind.i64.wrap (((List.length r1.2.1) : Int) + (1 : Int)))).toNat ((0 : Int), (bs []), ())))) then (within r2.1 ((IntKind.i64.wrap (((List.length r1.2.1) : Int) + (1 : Int)))).toNat (bif (Nat.ble ((r2.1).toNat + 1) (List.length (putL (List.replicate ((IntKind.i64.wrap (((List.length r1.2.1) : Int) + (1 : Int)))).toNat ((0 : Int), (bs []), ())) (List.take ((IntKind.i64.wrap (((List.length r1.2.1) : Int) + (1 : Int)))).toNat (List.drop 0 (List.take (r2.1).toNat r1.2.1))) 0))) then (bif (decide ((0 : Int) ≤ (IntKind.i64.wrap (r2.1 + (1 : Int))))) then (bif (decide ((IntKind.i64.wrap (r2.1 + (1 : Int))) ≤ ((((IntKind.i64.wrap (((List.length r1.2.1) : Int) + (1 : Int)))).toNat : Nat) : Int))) then (bif (decide ((0 : Int) ≤ r2.1)) then (bif (decide (r2.1 ≤ (((List.length r1.2.1) : Nat) : Int))) then (bif (Nat.beq ((IntKind.i64.wrap (((List.length r1.2.1) : Int) + (1 : Int)))).toNat (List.length (List.set (putL (List.replicate ((IntKind.i64.wrap (((List.length r1.2.1) : Int) + (1 : Int)))).toNat ((0 : Int), (bs []), ())) (List.take ((IntKind.i64.wrap (((List.length r1.2.1) : Int) + (1 : Int)))).toNat (List.drop 0 (List.take (r2.1).toNat r1.2.1))) 0) (r2.1).toNat (r2.2, text_2, ())))) then (bif (Nat.ble ((IntKind.i64.wrap (r2.1 + (1 : Int)))).toNat ((IntKind.i64.wrap (((List.length r1.2.1) : Int) + (1 : Int)))).toNat) then (bif (Nat.beq ((IntKind.i64.wrap (((List.length r1.2.1) : Int) + (1 : Int)))).toNat (List.length (putL (List.set (putL (List.replicate ((IntKind.i64.wrap (((List.length r1.2.1) : Int) + (1 : Int)))).toNat ((0 : Int), (bs []), ())) (List.take ((IntKind.i64.wrap (((List.length r1.2.1) : Int) + (1 : Int)))).toNat (List.drop 0 (List.take (r2.1).toNat r1.2.1))) 0) (r2.1).toNat (r2.2, text_2, ())) (List.take (((IntKind.i64.wrap (((List.length r1.2.1) : Int) + (1 : Int)))).toNat - ((IntKind.i64.wrap (r2.1 + (1 : Int)))).toNat) (List.drop (r2.1).toNat (List.take (List.length r1.2.1) r1.2.1))) ((IntKind.i64.wrap (r2.1 + (1 : Int)))).toNat))) then (kr0 (m_0.1, (putL (List.set (putL (List.replicate ((IntKind.i64.wrap (((List.length r1.2.1) : Int) + (1 : Int)))).toNat ((0 : Int), (bs []), ())) (List.take ((IntKind.i64.wrap (((List.length r1.2.1) : Int) + (1 : Int)))).toNat (List.drop 0 (List.take (r2.1).toNat r1.2.1))) 0) (r2.1).toNat (r2.2, text_2, ())) (List.take (((IntKind.i64.wrap (((List.length r1.2.1) : Int) + (1 : Int)))).toNat - ((IntKind.i64.wrap (r2.1 + (1 : Int)))).toNat) (List.drop (r2.1).toNat (List.take (List.length r1.2.1) r1.2.1))) ((IntKind.i64.wrap (r2.1 + (1 : Int)))).toNat), ())) else none) else none) else none) else none) else none) else none) else none) else none)) else none) else none) else none) else none) else none) else none))))
theorem msg_With_s0_bind {R S : Type} (F : R → Option S) (m_0 : Zt16) (no_1 : Int) (text_2 : ByteArray) (kr0 : Zt16 → Option R) : (msg_With_s0 m_0 no_1 text_2 kr0).bind F = msg_With_s0 m_0 no_1 text_2 (fun a0 => (kr0 a0).bind F) := by
  simp only [msg_With_s0, cond_bind, within_bind, none_bind, some_bind, sum_bind, bind_bind]
def msg_With (m_0 : Zt16) (no_1 : Int) (text_2 : ByteArray) : Option Zt16 :=
  msg_With_s0 m_0 no_1 text_2 (fun a0 => some a0)
end Groat
set_option linter.unusedVariables false
set_option linter.unusedSimpArgs false
set_option maxRecDepth 100000
namespace Groat
open Go Go.Ref
def xlate_typed_s0 {R : Type} (p_0 : Zt8) (a_1 : Zt17) (b_2 : Zt17) (kr0 : Bool → Option R) : Option R :=
  ((mti_Version p_0.1).bind fun r1 => ((mti_Version p_0.2.1).bind fun r2 => (bif r1.2 then (bif r2.2 then (bif (decide (r1.1 = a_1.2.1)) then (bif (decide (r2.1 = b_2.2.1)) then ((mti_Request p_0.1).bind fun r3 => ((mti_Request p_0.2.1).bind fun r4 => (kr0 (r3 == r4)))) else (kr0 false)) else (kr0 false)) else (kr0 false)) else (kr0 false))))
theorem xlate_typed_s0_bind {R S : Type} (F : R → Option S) (p_0 : Zt8) (a_1 : Zt17) (b_2 : Zt17) (kr0 : Bool → Option R) : (xlate_typed_s0 p_0 a_1 b_2 kr0).bind F = xlate_typed_s0 p_0 a_1 b_2 (fun a0 => (kr0 a0).bind F) := by
  simp only [xlate_typed_s0, cond_bind, within_bind, none_bind, some_bind, sum_bind, bind_bind]
def xlate_typed (p_0 : Zt8) (a_1 : Zt17) (b_2 : Zt17) : Option Bool :=
  xlate_typed_s0 p_0 a_1 b_2 (fun a0 => some a0)
def xlate_Check_s0 {R : Type} (m_0 : Zt23) (a_1 : Zt17) (b_2 : Zt17) (go0 : Zt18 → Int → Int → Zt23 → Zt17 → Zt17 → Option R) : Option R :=
  (go0 ([a_1, b_2] : List Zt17) ((List.length ([a_1, b_2] : List Zt17)) : Int) (0 : Int) m_0 a_1 b_2)
theorem xlate_Check_s0_bind {R S : Type} (F : R → Option S) (m_0 : Zt23) (a_1 : Zt17) (b_2 : Zt17) (go0 : Zt18 → Int → Int → Zt23 → Zt17 → Zt17 → Option R) : (xlate_Check_s0 m_0 a_1 b_2 go0).bind F = xlate_Check_s0 m_0 a_1 b_2 (fun a0 a1 a2 a3 a4 a5 => (go0 a0 a1 a2 a3 a4 a5).bind F) := by
  simp only [xlate_Check_s0, cond_bind, within_bind, none_bind, some_bind, sum_bind, bind_bind]
def xlate_Check_s1 {R : Type} (t26 : Zt18) (t27 : Int) (t28 : Int) (bt3 : Zt23) (bt4 : Zt17) (bt5 : Zt17) (ex0_0 : Int → Int → Int → Zt23 → Zt17 → Zt17 → Option R) (nx0 : Zt18 → Int → Int → Zt23 → Zt17 → Zt17 → Option R) (ex0_1 : Zt23 → Zt17 → Zt17 → Option R) : Option R :=
  (bif (decide (t28 < t27)) then (within t28 (List.length t26) ((schema_Check (List.getD t26 (t28).toNat ((0 : Int), (0 : Int), ([] : List Zt12), ()))).bind fun r1 => (bif (!(decide (r1.1 = (0 : Int)))) then (ex0_0 (1 : Int) (1 : Int) t28 bt3 bt4 bt5) else (nx0 t26 t27 (IntKind.i64.wrap (t28 + (1 : Int))) bt3 bt4 bt5)))) else (ex0_1 bt3 bt4 bt5))
theorem xlate_Check_s1_bind {R S : Type} (F : R → Option S) (t26 : Zt18) (t27 : Int) (t28 : Int) (bt3 : Zt23) (bt4 : Zt17) (bt5 : Zt17) (ex0_0 : Int → Int → Int → Zt23 → Zt17 → Zt17 → Option R) (nx0 : Zt18 → Int → Int → Zt23 → Zt17 → Zt17 → Option R) (ex0_1 : Zt23 → Zt17 → Zt17 → Option R) : (xlate_Check_s1 t26 t27 t28 bt3 bt4 bt5 ex0_0 nx0 ex0_1).bind F = xlate_Check_s1 t26 t27 t28 bt3 bt4 bt5 (fun a0 a1 a2 a3 a4 a5 => (ex0_0 a0 a1 a2 a3 a4 a5).bind F) (fun a0 a1 a2 a3 a4 a5 => (nx0 a0 a1 a2 a3 a4 a5).bind F) (fun a0 a1 a2 => (ex0_1 a0 a1 a2).bind F) := by
  simp only [xlate_Check_s1, cond_bind, within_bind, none_bind, some_bind, sum_bind, bind_bind]
def xlate_Check_s2 {R : Type} (t6 : Int) (t7 : Int) (t8 : Int) (bt3 : Zt23) (bt4 : Zt17) (bt5 : Zt17) (kr0 : Int → Int → Int → Option R) : Option R :=
  (kr0 t6 t7 t8)
theorem xlate_Check_s2_bind {R S : Type} (F : R → Option S) (t6 : Int) (t7 : Int) (t8 : Int) (bt3 : Zt23) (bt4 : Zt17) (bt5 : Zt17) (kr0 : Int → Int → Int → Option R) : (xlate_Check_s2 t6 t7 t8 bt3 bt4 bt5 kr0).bind F = xlate_Check_s2 t6 t7 t8 bt3 bt4 bt5 (fun a0 a1 a2 => (kr0 a0 a1 a2).bind F) := by
  simp only [xlate_Check_s2, cond_bind, within_bind, none_bind, some_bind, sum_bind, bind_bind]
def xlate_Check_s3 {R : Type} (bt3 : Zt23) (bt4 : Zt17) (bt5 : Zt17) (kr0 : Int → Int → Int → Option R) (go1 : Zt13 → Int → Int → Zt23 → Zt17 → Zt17 → Zt7 → Option R) : Option R :=
  (bif (decide ((256 : Int) < ((List.length bt3.1) : Int))) then (kr0 (5 : Int) (2 : Int) (256 : Int)) else (go1 bt3.1 ((List.length bt3.1) : Int) (0 : Int) bt3 bt4 bt5 ([] : List Zt3)))
theorem xlate_Check_s3_bind {R S : Type} (F : R → Option S) (bt3 : Zt23) (bt4 : Zt17) (bt5 : Zt17) (kr0 : Int → Int → Int → Option R) (go1 : Zt13 → Int → Int → Zt23 → Zt17 → Zt17 → Zt7 → Option R) : (xlate_Check_s3 bt3 bt4 bt5 kr0 go1).bind F = xlate_Check_s3 bt3 bt4 bt5 (fun a0 a1 a2 => (kr0 a0 a1 a2).bind F) (fun a0 a1 a2 a3 a4 a5 a6 => (go1 a0 a1 a2 a3 a4 a5 a6).bind F) := by
  simp only [xlate_Check_s3, cond_bind, within_bind, none_bind, some_bind, sum_bind, bind_bind]
def xlate_Check_s4 {R : Type} (t48 : Zt13) (t49 : Int) (t50 : Int) (bt3 : Zt23) (bt4 : Zt17) (bt5 : Zt17) (bt13 : Zt7) (ex1_0 : Int → Int → Int → Zt23 → Zt17 → Zt17 → Option R) (nx1 : Zt13 → Int → Int → Zt23 → Zt17 → Zt17 → Zt7 → Option R) (ex1_1 : Zt23 → Zt17 → Zt17 → Option R) : Option R :=
  (bif (decide (t50 < t49)) then (within t50 (List.length t48) ((xlate_typed (List.getD t48 (t50).toNat ((bs []), (bs []), ())) bt4 bt5).bind fun r2 => (bif (!r2) then (ex1_0 (7 : Int) (2 : Int) t50 bt3 bt4 bt5) else (bif (mget (eqK .str) false bt13 (List.getD t48 (t50).toNat ((bs []), (bs []), ())).1) then (ex1_0 (10 : Int) (2 : Int) t50 bt3 bt4 bt5) else (bif (mhas (eqK .str) bt13 (List.getD t48 (t50).toNat ((bs []), (bs []), ())).1) then none else (nx1 t48 t49 (IntKind.i64.wrap (t50 + (1 : Int))) bt3 bt4 bt5 (bt13 ++ [((List.getD t48 (t50).toNat ((bs []), (bs []), ())).1, true)]))))))) else (ex1_1 bt3 bt4 bt5))
theorem xlate_Check_s4_bind {R S : Type} (F : R → Option S) (t48 : Zt13) (t49 : Int) (t50 : Int) (bt3 : Zt23) (bt4 : Zt17) (bt5 : Zt17) (bt13 : Zt7) (ex1_0 : Int → Int → Int → Zt23 → Zt17 → Zt17 → Option R) (nx1 : Zt13 → Int → Int → Zt23 → Zt17 → Zt17 → Zt7 → Option R) (ex1_1 : Zt23 → Zt17 → Zt17 → Option R) : (xlate_Check_s4 t48 t49 t50 bt3 bt4 bt5 bt13 ex1_0 nx1 ex1_1).bind F = xlate_Check_s4 t48 t49 t50 bt3 bt4 bt5 bt13 (fun a0 a1 a2 a3 a4 a5 => (ex1_0 a0 a1 a2 a3 a4 a5).bind F) (fun a0 a1 a2 a3 a4 a5 a6 => (nx1 a0 a1 a2 a3 a4 a5 a6).bind F) (fun a0 a1 a2 => (ex1_1 a0 a1 a2).bind F) := by
  simp only [xlate_Check_s4, cond_bind, within_bind, none_bind, some_bind, sum_bind, bind_bind]
def xlate_Check_s5 {R : Type} (t6 : Int) (t7 : Int) (t8 : Int) (bt3 : Zt23) (bt4 : Zt17) (bt5 : Zt17) (kr0 : Int → Int → Int → Option R) : Option R :=
  (kr0 t6 t7 t8)
theorem xlate_Check_s5_bind {R S : Type} (F : R → Option S) (t6 : Int) (t7 : Int) (t8 : Int) (bt3 : Zt23) (bt4 : Zt17) (bt5 : Zt17) (kr0 : Int → Int → Int → Option R) : (xlate_Check_s5 t6 t7 t8 bt3 bt4 bt5 kr0).bind F = xlate_Check_s5 t6 t7 t8 bt3 bt4 bt5 (fun a0 a1 a2 => (kr0 a0 a1 a2).bind F) := by
  simp only [xlate_Check_s5, cond_bind, within_bind, none_bind, some_bind, sum_bind, bind_bind]
def xlate_Check_s6 {R : Type} (bt3 : Zt23) (bt4 : Zt17) (bt5 : Zt17) (kr0 : Int → Int → Int → Option R) (go2 : Zt21 → Int → Int → Zt17 → Zt17 → Zt4 → Zt4 → Option R) : Option R :=
  (bif (decide ((256 : Int) < ((List.length bt3.2.1) : Int))) then (kr0 (5 : Int) (3 : Int) (256 : Int)) else (go2 bt3.2.1 ((List.length bt3.2.1) : Int) (0 : Int) bt4 bt5 ((0 : Int), (0 : Int), ()) ((0 : Int), (0 : Int), ())))
theorem xlate_Check_s6_bind {R S : Type} (F : R → Option S) (bt3 : Zt23) (bt4 : Zt17) (bt5 : Zt17) (kr0 : Int → Int → Int → Option R) (go2 : Zt21 → Int → Int → Zt17 → Zt17 → Zt4 → Zt4 → Option R) : (xlate_Check_s6 bt3 bt4 bt5 kr0 go2).bind F = xlate_Check_s6 bt3 bt4 bt5 (fun a0 a1 a2 => (kr0 a0 a1 a2).bind F) (fun a0 a1 a2 a3 a4 a5 a6 => (go2 a0 a1 a2 a3 a4 a5 a6).bind F) := by
  simp only [xlate_Check_s6, cond_bind, within_bind, none_bind, some_bind, sum_bind, bind_bind]
def xlate_Check_s7 {R : Type} (t77 : Zt21) (t78 : Int) (t79 : Int) (bt4 : Zt17) (bt5 : Zt17) (bt16 : Zt4) (bt17 : Zt4) (ex2_0 : Int → Int → Int → Option R) (nx2 : Zt21 → Int → Int → Zt17 → Zt17 → Zt4 → Zt4 → Option R) (ex2_1 : Option R) : Option R :=
  (bif (decide (t79 < t78)) then (within t79 (List.length t77) ((rule_Check (List.getD t77 (t79).toNat ((0 : Int), (0 : Int), (0 : Int), (bs []), ([] : List Zt8), ())) bt4 bt5).bind fun r3 => (bif (!(decide (r3 = (0 : Int)))) then (ex2_0 r3 (3 : Int) t79) else ((fields_Of ([(List.getD t77 (t79).toNat ((0 : Int), (0 : Int), (0 : Int), (bs []), ([] : List Zt8), ())).2.1] : List Int)).bind fun r4 => ((fields_Of ([(List.getD t77 (t79).toNat ((0 : Int), (0 : Int), (0 : Int), (bs []), ([] : List Zt8), ())).2.2.1] : List Int)).bind fun r5 => ((fields_Set_Both bt16 r4).bind fun r6 => (bif (!((decide (r6.1 = (0 : Int))) && ((decide (r6.2.1 = (0 : Int))) && true))) then (ex2_0 (10 : Int) (3 : Int) t79) else ((fields_Set_Both bt17 r5).bind fun r7 => (bif (!((decide (r7.1 = (0 : Int))) && ((decide (r7.2.1 = (0 : Int))) && true))) then (ex2_0 (10 : Int) (3 : Int) t79) else ((fields_Set_Either bt16 r4).bind fun r8 => ((fields_Set_Either bt17 r5).bind fun r9 => (nx2 t77 t78 (IntKind.i64.wrap (t79 + (1 : Int))) bt4 bt5 r8 r9)))))))))))) else (ex2_1))
theorem xlate_Check_s7_bind {R S : Type} (F : R → Option S) (t77 : Zt21) (t78 : Int) (t79 : Int) (bt4 : Zt17) (bt5 : Zt17) (bt16 : Zt4) (bt17 : Zt4) (ex2_0 : Int → Int → Int → Option R) (nx2 : Zt21 → Int → Int → Zt17 → Zt17 → Zt4 → Zt4 → Option R) (ex2_1 : Option R) : (xlate_Check_s7 t77 t78 t79 bt4 bt5 bt16 bt17 ex2_0 nx2 ex2_1).bind F = xlate_Check_s7 t77 t78 t79 bt4 bt5 bt16 bt17 (fun a0 a1 a2 => (ex2_0 a0 a1 a2).bind F) (fun a0 a1 a2 a3 a4 a5 a6 => (nx2 a0 a1 a2 a3 a4 a5 a6).bind F) ((ex2_1).bind F) := by
  simp only [xlate_Check_s7, cond_bind, within_bind, none_bind, some_bind, sum_bind, bind_bind]
def xlate_Check_s8 {R : Type} (t6 : Int) (t7 : Int) (t8 : Int) (kr0 : Int → Int → Int → Option R) : Option R :=
  (kr0 t6 t7 t8)
theorem xlate_Check_s8_bind {R S : Type} (F : R → Option S) (t6 : Int) (t7 : Int) (t8 : Int) (kr0 : Int → Int → Int → Option R) : (xlate_Check_s8 t6 t7 t8 kr0).bind F = xlate_Check_s8 t6 t7 t8 (fun a0 a1 a2 => (kr0 a0 a1 a2).bind F) := by
  simp only [xlate_Check_s8, cond_bind, within_bind, none_bind, some_bind, sum_bind, bind_bind]
def xlate_Check_s9 {R : Type}  (kr0 : Int → Int → Int → Option R) : Option R :=
  (kr0 (0 : Int) (0 : Int) (0 : Int))
theorem xlate_Check_s9_bind {R S : Type} (F : R → Option S)  (kr0 : Int → Int → Int → Option R) : (xlate_Check_s9 kr0).bind F = xlate_Check_s9 (fun a0 a1 a2 => (kr0 a0 a1 a2).bind F) := by
  simp only [xlate_Check_s9, cond_bind, within_bind, none_bind, some_bind, sum_bind, bind_bind]
def xlate_Check_l0 : Nat → Zt18 → Int → Int → Zt23 → Zt17 → Zt17 → Option (Sum Zt26 Zt25)
  | 0, _, _, _, _, _, _ => none
  | k + 1, v0, v1, v2, v3, v4, v5 => xlate_Check_s1 v0 v1 v2 v3 v4 v5 (fun a0 a1 a2 a3 a4 a5 => some (.inl (a0, a1, a2, a3, a4, a5))) (fun a0 a1 a2 a3 a4 a5 => xlate_Check_l0 k a0 a1 a2 a3 a4 a5) (fun a0 a1 a2 => some (.inr (a0, a1, a2)))
def xlate_Check_l1 : Nat → Zt13 → Int → Int → Zt23 → Zt17 → Zt17 → Zt7 → Option (Sum Zt26 Zt25)
  | 0, _, _, _, _, _, _, _ => none
  | k + 1, v0, v1, v2, v3, v4, v5, v6 => xlate_Check_s4 v0 v1 v2 v3 v4 v5 v6 (fun a0 a1 a2 a3 a4 a5 => some (.inl (a0, a1, a2, a3, a4, a5))) (fun a0 a1 a2 a3 a4 a5 a6 => xlate_Check_l1 k a0 a1 a2 a3 a4 a5 a6) (fun a0 a1 a2 => some (.inr (a0, a1, a2)))
def xlate_Check_l2 : Nat → Zt21 → Int → Int → Zt17 → Zt17 → Zt4 → Zt4 → Option (Sum Zt0 Unit)
  | 0, _, _, _, _, _, _, _ => none
  | k + 1, v0, v1, v2, v3, v4, v5, v6 => xlate_Check_s7 v0 v1 v2 v3 v4 v5 v6 (fun a0 a1 a2 => some (.inl (a0, a1, a2))) (fun a0 a1 a2 a3 a4 a5 a6 => xlate_Check_l2 k a0 a1 a2 a3 a4 a5 a6) (some (.inr ()))
def xlate_Check (m_0 : Zt23) (a_1 : Zt17) (b_2 : Zt17) : Option Zt0 :=
  xlate_Check_s0 m_0 a_1 b_2 (fun a0 a1 a2 a3 a4 a5 => (xlate_Check_l0 FUEL a0 a1 a2 a3 a4 a5).bind fun e => (Sum.elim (fun (we : Zt26) => xlate_Check_s2 we.1 we.2.1 we.2.2.1 we.2.2.2.1 we.2.2.2.2.1 we.2.2.2.2.2 (fun a0 a1 a2 => some (a0, a1, a2))) (fun (we : Zt25) => xlate_Check_s3 we.1 we.2.1 we.2.2 (fun a0 a1 a2 => some (a0, a1, a2)) (fun a0 a1 a2 a3 a4 a5 a6 => (xlate_Check_l1 FUEL a0 a1 a2 a3 a4 a5 a6).bind fun e => (Sum.elim (fun (we : Zt26) => xlate_Check_s5 we.1 we.2.1 we.2.2.1 we.2.2.2.1 we.2.2.2.2.1 we.2.2.2.2.2 (fun a0 a1 a2 => some (a0, a1, a2))) (fun (we : Zt25) => xlate_Check_s6 we.1 we.2.1 we.2.2 (fun a0 a1 a2 => some (a0, a1, a2)) (fun a0 a1 a2 a3 a4 a5 a6 => (xlate_Check_l2 FUEL a0 a1 a2 a3 a4 a5 a6).bind fun e => (Sum.elim (fun (we : Zt0) => xlate_Check_s8 we.1 we.2.1 we.2.2 (fun a0 a1 a2 => some (a0, a1, a2))) (fun (we : Unit) => xlate_Check_s9 (fun a0 a1 a2 => some (a0, a1, a2))) e))) e))) e))
def xlate_head_s0 {R : Type} (m_0 : Zt23) (t_1 : ByteArray) (go0 : ByteArray → Zt13 → Int → Int → Option R) : Option R :=
  (go0 t_1 m_0.1 ((List.length m_0.1) : Int) (0 : Int))
theorem xlate_head_s0_bind {R S : Type} (F : R → Option S) (m_0 : Zt23) (t_1 : ByteArray) (go0 : ByteArray → Zt13 → Int → Int → Option R) : (xlate_head_s0 m_0 t_1 go0).bind F = xlate_head_s0 m_0 t_1 (fun a0 a1 a2 a3 => (go0 a0 a1 a2 a3).bind F) := by
  simp only [xlate_head_s0, cond_bind, within_bind, none_bind, some_bind, sum_bind, bind_bind]
def xlate_head_s1 {R : Type} (t_1 : ByteArray) (t9 : Zt13) (t10 : Int) (t11 : Int) (ex0_0 : ByteArray → Bool → Option R) (nx0 : ByteArray → Zt13 → Int → Int → Option R) (ex0_1 : Option R) : Option R :=
  (bif (decide (t11 < t10)) then (within t11 (List.length t9) (bif (decide ((List.getD t9 (t11).toNat ((bs []), (bs []), ())).1 = t_1)) then (ex0_0 (List.getD t9 (t11).toNat ((bs []), (bs []), ())).2.1 true) else (nx0 t_1 t9 t10 (IntKind.i64.wrap (t11 + (1 : Int)))))) else (ex0_1))
theorem xlate_head_s1_bind {R S : Type} (F : R → Option S) (t_1 : ByteArray) (t9 : Zt13) (t10 : Int) (t11 : Int) (ex0_0 : ByteArray → Bool → Option R) (nx0 : ByteArray → Zt13 → Int → Int → Option R) (ex0_1 : Option R) : (xlate_head_s1 t_1 t9 t10 t11 ex0_0 nx0 ex0_1).bind F = xlate_head_s1 t_1 t9 t10 t11 (fun a0 a1 => (ex0_0 a0 a1).bind F) (fun a0 a1 a2 a3 => (nx0 a0 a1 a2 a3).bind F) ((ex0_1).bind F) := by
  simp only [xlate_head_s1, cond_bind, within_bind, none_bind, some_bind, sum_bind, bind_bind]
def xlate_head_s2 {R : Type} (t4 : ByteArray) (t5 : Bool) (kr0 : ByteArray → Bool → Option R) : Option R :=
  (kr0 t4 t5)
theorem xlate_head_s2_bind {R S : Type} (F : R → Option S) (t4 : ByteArray) (t5 : Bool) (kr0 : ByteArray → Bool → Option R) : (xlate_head_s2 t4 t5 kr0).bind F = xlate_head_s2 t4 t5 (fun a0 a1 => (kr0 a0 a1).bind F) := by
  simp only [xlate_head_s2, cond_bind, within_bind, none_bind, some_bind, sum_bind, bind_bind]
def xlate_head_s3 {R : Type}  (kr0 : ByteArray → Bool → Option R) : Option R :=
  (kr0 (bs []) false)
theorem xlate_head_s3_bind {R S : Type} (F : R → Option S)  (kr0 : ByteArray → Bool → Option R) : (xlate_head_s3 kr0).bind F = xlate_head_s3 (fun a0 a1 => (kr0 a0 a1).bind F) := by
  simp only [xlate_head_s3, cond_bind, within_bind, none_bind, some_bind, sum_bind, bind_bind]
def xlate_head_l0 : Nat → ByteArray → Zt13 → Int → Int → Option (Sum Zt3 Unit)
  | 0, _, _, _, _ => none
  | k + 1, v0, v1, v2, v3 => xlate_head_s1 v0 v1 v2 v3 (fun a0 a1 => some (.inl (a0, a1))) (fun a0 a1 a2 a3 => xlate_head_l0 k a0 a1 a2 a3) (some (.inr ()))
def xlate_head (m_0 : Zt23) (t_1 : ByteArray) : Option Zt3 :=
  xlate_head_s0 m_0 t_1 (fun a0 a1 a2 a3 => (xlate_head_l0 FUEL a0 a1 a2 a3).bind fun e => (Sum.elim (fun (we : Zt3) => xlate_head_s2 we.1 we.2 (fun a0 a1 => some (a0, a1))) (fun (we : Unit) => xlate_head_s3 (fun a0 a1 => some (a0, a1))) e))
def xlate_find_s0 {R : Type} (m_0 : Zt23) (no_1 : Int) (go0 : Int → Zt21 → Int → Int → Zt19 → Option R) : Option R :=
  (go0 no_1 m_0.2.1 ((List.length m_0.2.1) : Int) (0 : Int) ((0 : Int), (0 : Int), (0 : Int), (bs []), ([] : List Zt8), ()))
theorem xlate_find_s0_bind {R S : Type} (F : R → Option S) (m_0 : Zt23) (no_1 : Int) (go0 : Int → Zt21 → Int → Int → Zt19 → Option R) : (xlate_find_s0 m_0 no_1 go0).bind F = xlate_find_s0 m_0 no_1 (fun a0 a1 a2 a3 a4 => (go0 a0 a1 a2 a3 a4).bind F) := by
  simp only [xlate_find_s0, cond_bind, within_bind, none_bind, some_bind, sum_bind, bind_bind]
def xlate_find_s1 {R : Type} (no_1 : Int) (t9 : Zt21) (t10 : Int) (t11 : Int) (bt4 : Zt19) (ex0_0 : Bool → Zt19 → Option R) (nx0 : Int → Zt21 → Int → Int → Zt19 → Option R) (ex0_1 : Zt19 → Option R) : Option R :=
  (bif (decide (t11 < t10)) then (within t11 (List.length t9) (bif (decide ((List.getD t9 (t11).toNat ((0 : Int), (0 : Int), (0 : Int), (bs []), ([] : List Zt8), ())).2.1 = no_1)) then (ex0_0 true (List.getD t9 (t11).toNat ((0 : Int), (0 : Int), (0 : Int), (bs []), ([] : List Zt8), ()))) else (nx0 no_1 t9 t10 (IntKind.i64.wrap (t11 + (1 : Int))) bt4))) else (ex0_1 bt4))
theorem xlate_find_s1_bind {R S : Type} (F : R → Option S) (no_1 : Int) (t9 : Zt21) (t10 : Int) (t11 : Int) (bt4 : Zt19) (ex0_0 : Bool → Zt19 → Option R) (nx0 : Int → Zt21 → Int → Int → Zt19 → Option R) (ex0_1 : Zt19 → Option R) : (xlate_find_s1 no_1 t9 t10 t11 bt4 ex0_0 nx0 ex0_1).bind F = xlate_find_s1 no_1 t9 t10 t11 bt4 (fun a0 a1 => (ex0_0 a0 a1).bind F) (fun a0 a1 a2 a3 a4 => (nx0 a0 a1 a2 a3 a4).bind F) (fun a0 => (ex0_1 a0).bind F) := by
  simp only [xlate_find_s1, cond_bind, within_bind, none_bind, some_bind, sum_bind, bind_bind]
def xlate_find_s2 {R : Type} (t5 : Bool) (bt4 : Zt19) (kr0 : Zt19 → Bool → Option R) : Option R :=
  (kr0 bt4 t5)
theorem xlate_find_s2_bind {R S : Type} (F : R → Option S) (t5 : Bool) (bt4 : Zt19) (kr0 : Zt19 → Bool → Option R) : (xlate_find_s2 t5 bt4 kr0).bind F = xlate_find_s2 t5 bt4 (fun a0 a1 => (kr0 a0 a1).bind F) := by
  simp only [xlate_find_s2, cond_bind, within_bind, none_bind, some_bind, sum_bind, bind_bind]
def xlate_find_s3 {R : Type} (bt4 : Zt19) (kr0 : Zt19 → Bool → Option R) : Option R :=
  (kr0 ((0 : Int), (0 : Int), (0 : Int), (bs []), ([] : List Zt8), ()) false)
theorem xlate_find_s3_bind {R S : Type} (F : R → Option S) (bt4 : Zt19) (kr0 : Zt19 → Bool → Option R) : (xlate_find_s3 bt4 kr0).bind F = xlate_find_s3 bt4 (fun a0 a1 => (kr0 a0 a1).bind F) := by
  simp only [xlate_find_s3, cond_bind, within_bind, none_bind, some_bind, sum_bind, bind_bind]
def xlate_find_l0 : Nat → Int → Zt21 → Int → Int → Zt19 → Option (Sum (Bool × Zt19) Zt19)
  | 0, _, _, _, _, _ => none
  | k + 1, v0, v1, v2, v3, v4 => xlate_find_s1 v0 v1 v2 v3 v4 (fun a0 a1 => some (.inl (a0, a1))) (fun a0 a1 a2 a3 a4 => xlate_find_l0 k a0 a1 a2 a3 a4) (fun a0 => some (.inr a0))
def xlate_find (m_0 : Zt23) (no_1 : Int) : Option (Zt19 × Bool) :=
  xlate_find_s0 m_0 no_1 (fun a0 a1 a2 a3 a4 => (xlate_find_l0 FUEL a0 a1 a2 a3 a4).bind fun e => (Sum.elim (fun (we : (Bool × Zt19)) => xlate_find_s2 we.1 we.2 (fun a0 a1 => some (a0, a1))) (fun (we : Zt19) => xlate_find_s3 we (fun a0 a1 => some (a0, a1))) e))
def xlate_Translate_s0 {R : Type} (m_0 : Zt23) (a_1 : Zt17) (b_2 : Zt17) (x_3 : Zt16) (kr0 : Zt16 → Zt4 → Option R) (go0 : Zt21 → Int → Int → Zt23 → Zt17 → Zt16 → Zt16 → Zt4 → Zt16 → Option R) : Option R :=
  ((xlate_Check m_0 a_1 b_2).bind fun r1 => (bif (!(decide (r1.1 = (0 : Int)))) then (kr0 ((bs []), ([] : List Zt6), ()) ((1 : Int), (-1 : Int), ())) else ((msg_Check a_1 x_3).bind fun r2 => (bif (!(decide (r2.1 = (0 : Int)))) then (kr0 ((bs []), ([] : List Zt6), ()) r2) else ((xlate_head m_0 x_3.1).bind fun r3 => (bif (!r3.2) then (kr0 ((bs []), ([] : List Zt6), ()) ((7 : Int), (0 : Int), ())) else (go0 m_0.2.1 ((List.length m_0.2.1) : Int) (0 : Int) m_0 b_2 x_3 ((bs []), ([] : List Zt6), ()) ((0 : Int), (0 : Int), ()) (r3.1, ([] : List Zt6), ()))))))))
theorem xlate_Translate_s0_bind {R S : Type} (F : R → Option S) (m_0 : Zt23) (a_1 : Zt17) (b_2 : Zt17) (x_3 : Zt16) (kr0 : Zt16 → Zt4 → Option R) (go0 : Zt21 → Int → Int → Zt23 → Zt17 → Zt16 → Zt16 → Zt4 → Zt16 → Option R) : (xlate_Translate_s0 m_0 a_1 b_2 x_3 kr0 go0).bind F = xlate_Translate_s0 m_0 a_1 b_2 x_3 (fun a0 a1 => (kr0 a0 a1).bind F) (fun a0 a1 a2 a3 a4 a5 a6 a7 a8 => (go0 a0 a1 a2 a3 a4 a5 a6 a7 a8).bind F) := by
  simp only [xlate_Translate_s0, cond_bind, within_bind, none_bind, some_bind, sum_bind, bind_bind]
def xlate_Translate_s1 {R : Type} (t59 : Zt21) (t60 : Int) (t61 : Int) (bt4 : Zt23) (bt6 : Zt17) (bt7 : Zt16) (bt8 : Zt16) (bt9 : Zt4) (bt16 : Zt16) (nx0 : Zt21 → Int → Int → Zt23 → Zt17 → Zt16 → Zt16 → Zt4 → Zt16 → Option R) (ex0_0 : Zt23 → Zt17 → Zt16 → Zt16 → Zt4 → Zt16 → Option R) : Option R :=
  (bif (decide (t61 < t60)) then (within t61 (List.length t59) (bif (decide ((List.getD t59 (t61).toNat ((0 : Int), (0 : Int), (0 : Int), (bs []), ([] : List Zt8), ())).1 = (3 : Int))) then ((msg_With bt16 (List.getD t59 (t61).toNat ((0 : Int), (0 : Int), (0 : Int), (bs []), ([] : List Zt8), ())).2.2.1 (List.getD t59 (t61).toNat ((0 : Int), (0 : Int), (0 : Int), (bs []), ([] : List Zt8), ())).2.2.2.1).bind fun r4 => (nx0 t59 t60 (IntKind.i64.wrap (t61 + (1 : Int))) bt4 bt6 bt7 bt8 bt9 r4)) else (nx0 t59 t60 (IntKind.i64.wrap (t61 + (1 : Int))) bt4 bt6 bt7 bt8 bt9 bt16))) else (ex0_0 bt4 bt6 bt7 bt8 bt9 bt16))
theorem xlate_Translate_s1_bind {R S : Type} (F : R → Option S) (t59 : Zt21) (t60 : Int) (t61 : Int) (bt4 : Zt23) (bt6 : Zt17) (bt7 : Zt16) (bt8 : Zt16) (bt9 : Zt4) (bt16 : Zt16) (nx0 : Zt21 → Int → Int → Zt23 → Zt17 → Zt16 → Zt16 → Zt4 → Zt16 → Option R) (ex0_0 : Zt23 → Zt17 → Zt16 → Zt16 → Zt4 → Zt16 → Option R) : (xlate_Translate_s1 t59 t60 t61 bt4 bt6 bt7 bt8 bt9 bt16 nx0 ex0_0).bind F = xlate_Translate_s1 t59 t60 t61 bt4 bt6 bt7 bt8 bt9 bt16 (fun a0 a1 a2 a3 a4 a5 a6 a7 a8 => (nx0 a0 a1 a2 a3 a4 a5 a6 a7 a8).bind F) (fun a0 a1 a2 a3 a4 a5 => (ex0_0 a0 a1 a2 a3 a4 a5).bind F) := by
  simp only [xlate_Translate_s1, cond_bind, within_bind, none_bind, some_bind, sum_bind, bind_bind]
def xlate_Translate_s2 {R : Type} (bt4 : Zt23) (bt6 : Zt17) (bt7 : Zt16) (bt8 : Zt16) (bt9 : Zt4) (bt16 : Zt16) (go1 : Zt10 → Int → Int → Zt23 → Zt17 → Zt16 → Zt4 → Zt16 → Option R) : Option R :=
  (go1 bt7.2.1 ((List.length bt7.2.1) : Int) (0 : Int) bt4 bt6 bt8 bt9 bt16)
theorem xlate_Translate_s2_bind {R S : Type} (F : R → Option S) (bt4 : Zt23) (bt6 : Zt17) (bt7 : Zt16) (bt8 : Zt16) (bt9 : Zt4) (bt16 : Zt16) (go1 : Zt10 → Int → Int → Zt23 → Zt17 → Zt16 → Zt4 → Zt16 → Option R) : (xlate_Translate_s2 bt4 bt6 bt7 bt8 bt9 bt16 go1).bind F = xlate_Translate_s2 bt4 bt6 bt7 bt8 bt9 bt16 (fun a0 a1 a2 a3 a4 a5 a6 a7 => (go1 a0 a1 a2 a3 a4 a5 a6 a7).bind F) := by
  simp only [xlate_Translate_s2, cond_bind, within_bind, none_bind, some_bind, sum_bind, bind_bind]
def xlate_Translate_s3 {R : Type} (t76 : Zt10) (t77 : Int) (t78 : Int) (bt4 : Zt23) (bt6 : Zt17) (bt8 : Zt16) (bt9 : Zt4) (bt16 : Zt16) (ex1_0 : Zt16 → Zt4 → Zt16 → Option R) (nx1 : Zt10 → Int → Int → Zt23 → Zt17 → Zt16 → Zt4 → Zt16 → Option R) (ex1_1 : Zt16 → Zt4 → Zt16 → Option R) : Option R :=
  (bif (decide (t78 < t77)) then (within t78 (List.length t76) ((xlate_find bt4 (List.getD t76 (t78).toNat ((0 : Int), (bs []), ())).1).bind fun r5 => (bif (!r5.2) then (ex1_0 ((bs []), ([] : List Zt6), ()) ((9 : Int), (List.getD t76 (t78).toNat ((0 : Int), (bs []), ())).1, ()) bt16) else ((rule_Apply r5.1 bt6 (List.getD t76 (t78).toNat ((0 : Int), (bs []), ())).2.1).bind fun r6 => (bif (!(decide (r6.2 = (0 : Int)))) then (ex1_0 ((bs []), ([] : List Zt6), ()) (r6.2, (List.getD t76 (t78).toNat ((0 : Int), (bs []), ())).1, ()) bt16) else (bif (!(decide (r6.1.1 = (0 : Int)))) then ((msg_With bt16 r6.1.1 r6.1.2.1).bind fun r7 => (nx1 t76 t77 (IntKind.i64.wrap (t78 + (1 : Int))) bt4 bt6 bt8 bt9 r7)) else (nx1 t76 t77 (IntKind.i64.wrap (t78 + (1 : Int))) bt4 bt6 bt8 bt9 bt16))))))) else (ex1_1 bt8 bt9 bt16))
theorem xlate_Translate_s3_bind {R S : Type} (F : R → Option S) (t76 : Zt10) (t77 : Int) (t78 : Int) (bt4 : Zt23) (bt6 : Zt17) (bt8 : Zt16) (bt9 : Zt4) (bt16 : Zt16) (ex1_0 : Zt16 → Zt4 → Zt16 → Option R) (nx1 : Zt10 → Int → Int → Zt23 → Zt17 → Zt16 → Zt4 → Zt16 → Option R) (ex1_1 : Zt16 → Zt4 → Zt16 → Option R) : (xlate_Translate_s3 t76 t77 t78 bt4 bt6 bt8 bt9 bt16 ex1_0 nx1 ex1_1).bind F = xlate_Translate_s3 t76 t77 t78 bt4 bt6 bt8 bt9 bt16 (fun a0 a1 a2 => (ex1_0 a0 a1 a2).bind F) (fun a0 a1 a2 a3 a4 a5 a6 a7 => (nx1 a0 a1 a2 a3 a4 a5 a6 a7).bind F) (fun a0 a1 a2 => (ex1_1 a0 a1 a2).bind F) := by
  simp only [xlate_Translate_s3, cond_bind, within_bind, none_bind, some_bind, sum_bind, bind_bind]
def xlate_Translate_s4 {R : Type} (bt8 : Zt16) (bt9 : Zt4) (bt16 : Zt16) (kr0 : Zt16 → Zt4 → Option R) : Option R :=
  (kr0 bt8 bt9)
theorem xlate_Translate_s4_bind {R S : Type} (F : R → Option S) (bt8 : Zt16) (bt9 : Zt4) (bt16 : Zt16) (kr0 : Zt16 → Zt4 → Option R) : (xlate_Translate_s4 bt8 bt9 bt16 kr0).bind F = xlate_Translate_s4 bt8 bt9 bt16 (fun a0 a1 => (kr0 a0 a1).bind F) := by
  simp only [xlate_Translate_s4, cond_bind, within_bind, none_bind, some_bind, sum_bind, bind_bind]
def xlate_Translate_s5 {R : Type} (bt8 : Zt16) (bt9 : Zt4) (bt16 : Zt16) (kr0 : Zt16 → Zt4 → Option R) : Option R :=
  (kr0 bt16 ((0 : Int), (0 : Int), ()))
theorem xlate_Translate_s5_bind {R S : Type} (F : R → Option S) (bt8 : Zt16) (bt9 : Zt4) (bt16 : Zt16) (kr0 : Zt16 → Zt4 → Option R) : (xlate_Translate_s5 bt8 bt9 bt16 kr0).bind F = xlate_Translate_s5 bt8 bt9 bt16 (fun a0 a1 => (kr0 a0 a1).bind F) := by
  simp only [xlate_Translate_s5, cond_bind, within_bind, none_bind, some_bind, sum_bind, bind_bind]
def xlate_Translate_l0 : Nat → Zt21 → Int → Int → Zt23 → Zt17 → Zt16 → Zt16 → Zt4 → Zt16 → Option (Zt23 × Zt17 × Zt16 × Zt16 × Zt4 × Zt16)
  | 0, _, _, _, _, _, _, _, _, _ => none
  | k + 1, v0, v1, v2, v3, v4, v5, v6, v7, v8 => xlate_Translate_s1 v0 v1 v2 v3 v4 v5 v6 v7 v8 (fun a0 a1 a2 a3 a4 a5 a6 a7 a8 => xlate_Translate_l0 k a0 a1 a2 a3 a4 a5 a6 a7 a8) (fun a0 a1 a2 a3 a4 a5 => some (a0, a1, a2, a3, a4, a5))
def xlate_Translate_l1 : Nat → Zt10 → Int → Int → Zt23 → Zt17 → Zt16 → Zt4 → Zt16 → Option (Sum Zt22 Zt22)
  | 0, _, _, _, _, _, _, _, _ => none
  | k + 1, v0, v1, v2, v3, v4, v5, v6, v7 => xlate_Translate_s3 v0 v1 v2 v3 v4 v5 v6 v7 (fun a0 a1 a2 => some (.inl (a0, a1, a2))) (fun a0 a1 a2 a3 a4 a5 a6 a7 => xlate_Translate_l1 k a0 a1 a2 a3 a4 a5 a6 a7) (fun a0 a1 a2 => some (.inr (a0, a1, a2)))
def xlate_Translate (m_0 : Zt23) (a_1 : Zt17) (b_2 : Zt17) (x_3 : Zt16) : Option (Zt16 × Zt4) :=
  xlate_Translate_s0 m_0 a_1 b_2 x_3 (fun a0 a1 => some (a0, a1)) (fun a0 a1 a2 a3 a4 a5 a6 a7 a8 => (xlate_Translate_l0 FUEL a0 a1 a2 a3 a4 a5 a6 a7 a8).bind fun e => xlate_Translate_s2 e.1 e.2.1 e.2.2.1 e.2.2.2.1 e.2.2.2.2.1 e.2.2.2.2.2 (fun a0 a1 a2 a3 a4 a5 a6 a7 => (xlate_Translate_l1 FUEL a0 a1 a2 a3 a4 a5 a6 a7).bind fun e => (Sum.elim (fun (we : Zt22) => xlate_Translate_s4 we.1 we.2.1 we.2.2 (fun a0 a1 => some (a0, a1))) (fun (we : Zt22) => xlate_Translate_s5 we.1 we.2.1 we.2.2 (fun a0 a1 => some (a0, a1))) e)))
end Groat
set_option linter.unusedVariables false
set_option linter.unusedSimpArgs false
set_option maxRecDepth 100000
namespace Groat
open Go Go.Ref
def w21_awake_s0 {R : Type}  (kr0 : Bool → Option R) : Option R :=
  ((r14_Schema (0 : Int)).bind fun r1 => ((r14_Schema (1 : Int)).bind fun r2 => ((xlate_Check (([((bs [48, 50, 48, 48]), (bs [49, 50, 48, 48]), ())] : List Zt8), ([((3 : Int), (0 : Int), (26 : Int), (bs [53, 57, 57, 57]), ([] : List Zt8), ()), ((1 : Int), (11 : Int), (11 : Int), (bs []), ([] : List Zt8), ())] : List Zt19), ()) r1 r2).bind fun r3 => ((xlate_Translate (([((bs [48, 50, 48, 48]), (bs [49, 50, 48, 48]), ())] : List Zt8), ([((3 : Int), (0 : Int), (26 : Int), (bs [53, 57, 57, 57]), ([] : List Zt8), ()), ((1 : Int), (11 : Int), (11 : Int), (bs []), ([] : List Zt8), ())] : List Zt19), ()) r1 r2 ((bs [48, 50, 48, 48]), ([((11 : Int), (bs [48, 48, 48, 48, 48, 49]), ())] : List Zt6), ())).bind fun r4 => ((xlate_Translate (([((bs [48, 50, 48, 48]), (bs [49, 50, 48, 48]), ())] : List Zt8), ([((3 : Int), (0 : Int), (26 : Int), (bs [53, 57, 57, 57]), ([] : List Zt8), ()), ((1 : Int), (11 : Int), (11 : Int), (bs []), ([] : List Zt8), ())] : List Zt19), ()) r1 r2 ((bs [48, 50, 48, 48]), ([((3 : Int), (bs [48, 48, 48, 48, 48, 49]), ())] : List Zt6), ())).bind fun r5 => ((xlate_Translate (([((bs [48, 50, 48, 48]), (bs [49, 50, 48, 48]), ())] : List Zt8), ([((3 : Int), (0 : Int), (26 : Int), (bs [53, 57, 57, 57]), ([] : List Zt8), ()), ((1 : Int), (11 : Int), (11 : Int), (bs []), ([] : List Zt8), ())] : List Zt19), ()) r1 r2 ((bs [48, 49, 48, 48]), ([] : List Zt6), ())).bind fun r6 => (bif (decide (r3.1 = (0 : Int))) then (bif (decide (r3.2.1 = (0 : Int))) then (bif (decide (r3.2.2 = (0 : Int))) then ((r16_Same r4.1 ((bs [49, 50, 48, 48]), ([((11 : Int), (bs [48, 48, 48, 48, 48, 49]), ()), ((26 : Int), (bs [53, 57, 57, 57]), ())] : List Zt6), ())).bind fun r7 => (bif r7 then (bif ((decide (r4.2.1 = (0 : Int))) && ((decide (r4.2.2.1 = (0 : Int))) && true)) then (bif ((decide (r5.2.1 = (9 : Int))) && ((decide (r5.2.2.1 = (3 : Int))) && true)) then (kr0 ((decide (r6.2.1 = (7 : Int))) && ((decide (r6.2.2.1 = (0 : Int))) && true))) else (kr0 false)) else (kr0 false)) else (kr0 false))) else (kr0 false)) else (kr0 false)) else (kr0 false))))))))
theorem w21_awake_s0_bind {R S : Type} (F : R → Option S)  (kr0 : Bool → Option R) : (w21_awake_s0 kr0).bind F = w21_awake_s0 (fun a0 => (kr0 a0).bind F) := by
  simp only [w21_awake_s0, cond_bind, within_bind, none_bind, some_bind, sum_bind, bind_bind]
def w21_awake  : Option Bool :=
  w21_awake_s0 (fun a0 => some a0)
def w21_great_s0 {R : Type} (m_0 : Zt23) (s_1 : Zt18) (kr0 : Bool → Option R) : Option R :=
  ((r21_Great m_0).bind fun r1 => (bif r1 then (kr0 true) else (within (0 : Int) 2 (bif (decide ((200 : Int) < ((List.length (List.getD s_1 ((0 : Int)).toNat ((0 : Int), (0 : Int), ([] : List Zt12), ())).2.2.1) : Int))) then (kr0 true) else (within (1 : Int) 2 (kr0 (decide ((200 : Int) < ((List.length (List.getD s_1 ((1 : Int)).toNat ((0 : Int), (0 : Int), ([] : List Zt12), ())).2.2.1) : Int)))))))))
theorem w21_great_s0_bind {R S : Type} (F : R → Option S) (m_0 : Zt23) (s_1 : Zt18) (kr0 : Bool → Option R) : (w21_great_s0 m_0 s_1 kr0).bind F = w21_great_s0 m_0 s_1 (fun a0 => (kr0 a0).bind F) := by
  simp only [w21_great_s0, cond_bind, within_bind, none_bind, some_bind, sum_bind, bind_bind]
def w21_great (m_0 : Zt23) (s_1 : Zt18) : Option Bool :=
  w21_great_s0 m_0 s_1 (fun a0 => some a0)
def w21_XlateTranslates_s0 {R : Type} (m_0 : Zt23) (s_1 : Zt18) (x_2 : Zt16) (kr0 : Bool → Option R) : Option R :=
  ((w21_awake).bind fun r1 => (bif (!r1) then ((w21_awake).bind fun r2 => (kr0 r2)) else ((w21_great m_0 s_1).bind fun r3 => (bif r3 then ((w21_awake).bind fun r4 => (kr0 r4)) else ((r16_Great x_2).bind fun r5 => (bif r5 then ((w21_awake).bind fun r6 => (kr0 r6)) else ((r21_Copy m_0).bind fun r7 => (within (0 : Int) 2 (within (1 : Int) 2 ((r16_Copy x_2).bind fun r8 => ((xlate_Translate r7 (List.getD s_1 ((0 : Int)).toNat ((0 : Int), (0 : Int), ([] : List Zt12), ())) (List.getD s_1 ((1 : Int)).toNat ((0 : Int), (0 : Int), ([] : List Zt12), ())) r8).bind fun r9 => (within (0 : Int) 2 (within (1 : Int) 2 ((r21_Translate m_0 (List.getD s_1 ((0 : Int)).toNat ((0 : Int), (0 : Int), ([] : List Zt12), ())) (List.getD s_1 ((1 : Int)).toNat ((0 : Int), (0 : Int), ([] : List Zt12), ())) x_2).bind fun r10 => ((r16_Same r9.1 r10.1).bind fun r11 => (bif r11 then (kr0 ((decide (r9.2.1 = r10.2.1)) && ((decide (r9.2.2.1 = r10.2.2.1)) && true))) else (kr0 false)))))))))))))))))
theorem w21_XlateTranslates_s0_bind {R S : Type} (F : R → Option S) (m_0 : Zt23) (s_1 : Zt18) (x_2 : Zt16) (kr0 : Bool → Option R) : (w21_XlateTranslates_s0 m_0 s_1 x_2 kr0).bind F = w21_XlateTranslates_s0 m_0 s_1 x_2 (fun a0 => (kr0 a0).bind F) := by
  simp only [w21_XlateTranslates_s0, cond_bind, within_bind, none_bind, some_bind, sum_bind, bind_bind]
def w21_XlateTranslates (m_0 : Zt23) (s_1 : Zt18) (x_2 : Zt16) : Option Bool :=
  w21_XlateTranslates_s0 m_0 s_1 x_2 (fun a0 => some a0)
end Groat
set_option linter.unusedVariables false
set_option linter.unusedSimpArgs false
set_option maxRecDepth 100000
namespace Groat
open Go Go.Ref
end Groat
set_option linter.unusedVariables false
set_option linter.unusedSimpArgs false
set_option maxRecDepth 100000
namespace Groat
open Go Go.Ref
end Groat
set_option linter.unusedVariables false
set_option linter.unusedSimpArgs false
set_option maxRecDepth 100000
namespace Groat
open Go Go.Ref
end Groat
set_option linter.unusedVariables false
set_option linter.unusedSimpArgs false
set_option maxRecDepth 100000
namespace Groat
open Go Go.Ref
end Groat
set_option linter.unusedVariables false
set_option linter.unusedSimpArgs false
set_option maxRecDepth 100000
namespace Groat
open Go Go.Ref
end Groat
set_option linter.unusedVariables false
set_option linter.unusedSimpArgs false
set_option maxRecDepth 100000
namespace Groat
open Go Go.Ref
end Groat
set_option linter.unusedVariables false
set_option linter.unusedSimpArgs false
set_option maxRecDepth 100000
namespace Groat
open Go Go.Ref
end Groat
set_option linter.unusedVariables false
set_option linter.unusedSimpArgs false
set_option maxRecDepth 100000
namespace Groat
open Go Go.Ref
end Groat
set_option linter.unusedVariables false
set_option linter.unusedSimpArgs false
set_option maxRecDepth 100000
namespace Groat
open Go Go.Ref
end Groat
set_option linter.unusedVariables false
set_option linter.unusedSimpArgs false
namespace Groat
open Go Go.Ref
theorem fuel_eq : FUEL = 18446744073709551616 := by unfold FUEL; rfl
theorem maxLen_eq : maxLen = 9223372036854775807 := rfl
theorem i64_id {x : Int} (h1 : -9223372036854775808 ≤ x) (h2 : x ≤ 9223372036854775807) : IntKind.i64.wrap x = x := wrap64 h1 h2
theorem i64_nat {n : Nat} (h : n ≤ 9223372036854775807) : IntKind.i64.wrap (n : Int) = n := wrap64 (by omega) (by omega)
theorem i64_succ {j : Nat} (h : j < 9223372036854775807) : IntKind.i64.wrap ((j : Int) + 1) = ((j + 1 : Nat) : Int) := by
  rw [wrap64 (by omega) (by omega)]; rfl
theorem u64_mod (x : Int) : IntKind.u64.wrap x = x % 18446744073709551616 := by
  simp [IntKind.wrap, IntKind.signed, IntKind.bits]
theorem u8_mod (x : Int) : IntKind.u8.wrap x = x % 256 := by
  simp [IntKind.wrap, IntKind.signed, IntKind.bits]
theorem u64_id {x : Int} (h1 : 0 ≤ x) (h2 : x < 18446744073709551616) : IntKind.u64.wrap x = x := by rw [u64_mod]; omega
theorem u8_id {x : Int} (h1 : 0 ≤ x) (h2 : x < 256) : IntKind.u8.wrap x = x := by rw [u8_mod]; omega
theorem within_nat_lt {R : Type} {j n : Nat} {x : Option R} (h : j < n) : within (j : Int) n x = x := within_at h
theorem within_int {R : Type} {i : Int} {n : Nat} {x : Option R} (h0 : 0 ≤ i) (h : i < n) : within i n x = x := by
  unfold within
  rw [decide_eq_true h0, decide_eq_true h]; rfl
theorem bif_dec {R : Type} {p : Prop} [Decidable p] (x y : R) : (bif decide p then x else y) = if p then x else y := by
  by_cases h : p <;> simp [h]
def bl (s : ByteArray) : List Int := s.data.toList.map fun b => (b.toNat : Int)
theorem bl_inj {a b : ByteArray} (h : bl a = bl b) : a = b := by
  apply ByteArray.ext
  apply Array.ext'
  unfold bl at h
  have : Function.Injective (fun b : UInt8 => (b.toNat : Int)) := fun x y hxy => UInt8.toNat_inj.1 (Int.ofNat.inj hxy)
  exact (List.map_inj_right (fun x y h => this h)).1 h
theorem bl_eq {a b : ByteArray} : a = b ↔ bl a = bl b := ⟨fun h => by rw [h], bl_inj⟩
theorem bl_length (s : ByteArray) : (bl s).length = s.size := by unfold bl; rw [List.length_map]; rfl
theorem bl_append (a b : ByteArray) : bl (a ++ b) = bl a ++ bl b := by simp [bl, ByteArray.data_append]
theorem bl_extract (s : ByteArray) (i j : Nat) : bl (s.extract i j) = ((bl s).take j).drop i := by
  unfold bl
  rw [ByteArray.data_extract, Array.toList_extract, List.extract_eq_drop_take', List.map_drop, List.map_take]
theorem bl_byteAt (s : ByteArray) (i : Nat) : byteAt s i = (bl s).getD i 0 := by
  unfold byteAt bl
  split
  · rename_i h
    have h' : i < s.data.toList.length := h
    rw [List.getD_eq_getElem?_getD, List.getElem?_map, List.getElem?_eq_getElem h']
    rfl
  · rename_i h
    have h' : s.data.toList.length ≤ i := Nat.le_of_not_lt h
    rw [List.getD_eq_getElem?_getD, List.getElem?_eq_none (by simpa using h')]
    rfl
def isByte (n : Int) : Prop := 0 ≤ n ∧ n < 256
theorem bl_byte {s : ByteArray} {x : Int} (h : x ∈ bl s) : isByte x := by
  unfold bl at h
  obtain ⟨b, _, rfl⟩ := List.mem_map.1 h
  have := b.toNat_lt
  unfold isByte
  omega
theorem bl_strOf {xs : List Int} (h : ∀ x ∈ xs, isByte x) : bl (strOf xs) = xs := by
  simp only [bl, strOf, List.map_map]
  conv => rhs; rw [← List.map_id xs]
  apply List.map_congr_left
  intro x hx
  have := h x hx
  unfold isByte at this
  simp only [Function.comp, id]
  rw [UInt8.toNat_ofNat_of_lt' (by show x.toNat < 256; omega)]
  omega
theorem strOf_bl (s : ByteArray) : strOf (bl s) = s := bl_inj (bl_strOf fun x hx => bl_byte hx)
theorem bl_empty : bl (bs []) = [] := rfl
theorem bl_nil_iff {s : ByteArray} : s = bs [] ↔ bl s = [] := by rw [bl_eq, bl_empty]
theorem strOf_size (xs : List Int) : (strOf xs).size = xs.length := by rw [← bl_length]; unfold bl strOf; simp
section
variable {α σ ρ : Type}
end
end Groat
namespace Groat
open Go Go.Ref
section
variable {α σ ρ : Type}
def runI (g : Int → α → σ → (σ → Option ρ) → Option ρ) (fin : σ → Option ρ) : List α → Int → σ → Option ρ
  | [], _, s => fin s
  | x :: r, i, s => g i x s fun s' => runI g fin r (i + 1) s'
theorem loopI' (d : α) (xs : List α) (hlen : xs.length ≤ 9223372036854775807) (g : Int → α → σ → (σ → Option ρ) → Option ρ) (fin : σ → Option ρ) (L : Nat → Int → σ → Option ρ)
    (step : ∀ k (i : Int) s, L (k + 1) i s = bif decide (i < (xs.length : Int)) then within i xs.length (g i (xs.getD i.toNat d) s fun s' => L k (IntKind.i64.wrap (i + 1)) s') else fin s) :
    ∀ (m j k : Nat) (s : σ), j + m = xs.length → m < k → L k j s = runI g fin (xs.drop j) j s
  | 0, j, k, s, hj, hk => by
    obtain ⟨k, rfl⟩ : ∃ k', k = k' + 1 := ⟨k - 1, by omega⟩
    rw [step, decide_eq_false (by omega), List.drop_eq_nil_of_le (by omega)]; rfl
  | m + 1, j, k, s, hj, hk => by
    obtain ⟨k, rfl⟩ : ∃ k', k = k' + 1 := ⟨k - 1, by omega⟩
    have hlt : j < xs.length := by omega
    rw [step, decide_eq_true (by omega), cond_true, within_nat_lt hlt, List.drop_eq_getElem_cons hlt, runI]
    have hx : xs.getD ((j : Int)).toNat d = xs[j] := by rw [Int.toNat_natCast, List.getD_eq_getElem?_getD, List.getElem?_eq_getElem hlt]; rfl
    rw [hx]
    congr 1
    funext s'
    rw [i64_succ (by omega), loopI' d xs hlen g fin L step m (j + 1) k s' (by omega) (by omega)]
    rfl
theorem loopI (d : α) (xs : List α) (hlen : xs.length ≤ maxLen) (g : Int → α → σ → (σ → Option ρ) → Option ρ) (fin : σ → Option ρ) (L : Nat → Int → σ → Option ρ)
    (step : ∀ k (i : Int) s, L (k + 1) i s = bif decide (i < (xs.length : Int)) then within i xs.length (g i (xs.getD i.toNat d) s fun s' => L k (IntKind.i64.wrap (i + 1)) s') else fin s) (s : σ) : L FUEL 0 s = runI g fin xs 0 s := by
  rw [maxLen_eq] at hlen
  have := loopI' d xs hlen g fin L step xs.length 0 FUEL s (by omega) (by rw [fuel_eq]; omega)
  rw [List.drop_zero] at this
  exact this
theorem loopJ' (d : α) (xs : List α) (hlen : xs.length ≤ 9223372036854775807) (g : Int → α → σ → (σ → Option ρ) → Option ρ) (fin : σ → Option ρ) (L : Nat → Int → σ → Option ρ)
    (step : ∀ k (i : Int) s, 0 ≤ i → i < (xs.length : Int) → L (k + 1) i s = g i (xs.getD i.toNat d) s fun s' => L k (IntKind.i64.wrap (i + 1)) s') (stop : ∀ k s, L (k + 1) (xs.length : Int) s = fin s) :
    ∀ (m j k : Nat) (s : σ), j + m = xs.length → m < k → L k j s = runI g fin (xs.drop j) j s
  | 0, j, k, s, hj, hk => by
    obtain ⟨k, rfl⟩ : ∃ k', k = k' + 1 := ⟨k - 1, by omega⟩
    have : j = xs.length := by omega
    subst this
    rw [stop, List.drop_length]; rfl
  | m + 1, j, k, s, hj, hk => by
    obtain ⟨k, rfl⟩ : ∃ k', k = k' + 1 := ⟨k - 1, by omega⟩
    have hlt : j < xs.length := by omega
    rw [step k j s (by omega) (by omega), List.drop_eq_getElem_cons hlt, runI]
    have hx : xs.getD ((j : Int)).toNat d = xs[j] := by rw [Int.toNat_natCast, List.getD_eq_getElem?_getD, List.getElem?_eq_getElem hlt]; rfl
    rw [hx]
    congr 1
    funext s'
    rw [i64_succ (by omega), loopJ' d xs hlen g fin L step stop m (j + 1) k s' (by omega) (by omega)]
    rfl
theorem loopJ (d : α) (xs : List α) (hlen : xs.length ≤ maxLen) (g : Int → α → σ → (σ → Option ρ) → Option ρ) (fin : σ → Option ρ) (L : Nat → Int → σ → Option ρ)
    (step : ∀ k (i : Int) s, 0 ≤ i → i < (xs.length : Int) → L (k + 1) i s = g i (xs.getD i.toNat d) s fun s' => L k (IntKind.i64.wrap (i + 1)) s') (stop : ∀ k s, L (k + 1) (xs.length : Int) s = fin s) (s : σ) : L FUEL 0 s = runI g fin xs 0 s := by
  rw [maxLen_eq] at hlen
  have := loopJ' d xs hlen g fin L step stop xs.length 0 FUEL s (by omega) (by rw [fuel_eq]; omega)
  rw [List.drop_zero] at this
  exact this
end
end Groat
set_option linter.unusedVariables false
set_option linter.unusedSimpArgs false
set_option maxRecDepth 100000
namespace Groat
open Go Go.Ref
theorem ofInt_nat' (n a : Nat) (h : a < 2 ^ n) : (BitVec.ofInt n (a : Int)).toNat = a := by
  rw [BitVec.toNat_ofInt]
  have h2 : ((a : Int) % ((2 ^ n : Nat) : Int)) = ((a % 2 ^ n : Nat) : Int) := by rfl
  rw [h2, Int.toNat_natCast, Nat.mod_eq_of_lt h]
theorem u64_nat {a : Nat} (h : a < 18446744073709551616) : IntKind.u64.wrap (a : Int) = a := u64_id (by omega) (by omega)
theorem and64 {a b : Nat} (ha : a < 18446744073709551616) (hb : b < 18446744073709551616) : ibits .and .u64 a b = ((a &&& b : Nat) : Int) := by
  simp only [ibits, BitVec.toNat_and, ofInt_nat' IntKind.u64.bits a ha, ofInt_nat' IntKind.u64.bits b hb]
  exact u64_nat (Nat.lt_of_le_of_lt Nat.and_le_left ha)
theorem or64 {a b : Nat} (ha : a < 18446744073709551616) (hb : b < 18446744073709551616) : ibits .or .u64 a b = ((a ||| b : Nat) : Int) := by
  simp only [ibits, BitVec.toNat_or, ofInt_nat' IntKind.u64.bits a ha, ofInt_nat' IntKind.u64.bits b hb]
  exact u64_nat (Nat.or_lt_two_pow (n := 64) ha hb)
theorem and_i64 {a b : Nat} (ha : a < 9223372036854775808) (hb : b < 9223372036854775808) : ibits .and .i64 a b = ((a &&& b : Nat) : Int) := by
  simp only [ibits, BitVec.toNat_and, ofInt_nat' IntKind.i64.bits a (Nat.lt_trans ha (by decide)), ofInt_nat' IntKind.i64.bits b (Nat.lt_trans hb (by decide))]
  have := Nat.lt_of_le_of_lt (Nat.and_le_left (n := a) (m := b)) ha
  exact i64_nat (by omega)
theorem fdiv_nat (a : Nat) (k : Nat) (hk : k ≤ 64) : Int.fdiv (a : Int) (2 ^ min ((k : Int)).toNat 64) = ((a / 2 ^ k : Nat) : Int) := by
  rw [Int.fdiv_eq_ediv_of_nonneg _ (Int.pow_nonneg (by decide)), Int.toNat_natCast, Nat.min_eq_left hk]
  rfl
section
variable {c0 c1 c2 c3 c4 c5 c6 c7 : Nat}
end
end Groat
set_option linter.unusedVariables false
set_option linter.unusedSimpArgs false
namespace Groat
open Go Go.Ref
abbrev FSet := Int × Int × Unit
abbrev B64 : Nat := 18446744073709551616
def hasN (h l : Nat) (n : Int) : Bool :=
  if 1 ≤ n ∧ n ≤ 64 then h.testBit (64 - n).toNat else if 65 ≤ n ∧ n ≤ 128 then l.testBit (128 - n).toNat else false
def bitH (n : Int) : Nat := if 1 ≤ n ∧ n ≤ 64 then 2 ^ (64 - n).toNat else 0
def bitL (n : Int) : Nat := if 65 ≤ n ∧ n ≤ 128 then 2 ^ (128 - n).toNat else 0
theorem pow_lt64 {k : Nat} (h : k < 64) : 2 ^ k < B64 := Nat.pow_lt_pow_right (by decide) h
theorem bitH_lt (n : Int) : bitH n < B64 := by
  unfold bitH; split
  · exact pow_lt64 (by omega)
  · decide
theorem bitL_lt (n : Int) : bitL n < B64 := by
  unfold bitL; split
  · exact pow_lt64 (by omega)
  · decide
theorem shl_one {k : Nat} (h : k < 64) : IntKind.u64.wrap ((1 : Int) * 2 ^ min k 64) = ((2 ^ k : Nat) : Int) := by
  rw [Nat.min_eq_left (by omega), Int.one_mul]
  have := pow_lt64 h
  have e : ((2 : Int) ^ k) = ((2 ^ k : Nat) : Int) := by simp
  rw [e]
  exact u64_nat this
theorem bit_eq (n : Int) : fields_bit n = some ((bitH n : Int), (bitL n : Int), ()) := by
  unfold fields_bit fields_bit_s0 bitH bitL
  by_cases h1 : n < 1
  · rw [decide_eq_true h1, if_neg (by omega), if_neg (by omega)]; rfl
  rw [decide_eq_false h1, cond_false]
  by_cases h2 : 128 < n
  · rw [decide_eq_true h2, if_neg (by omega), if_neg (by omega)]; rfl
  rw [decide_eq_false h2, cond_false]
  by_cases h3 : n ≤ 64
  · rw [decide_eq_true h3, cond_true, i64_id (by omega) (by omega), decide_eq_false (by omega), cond_false, shl_one (by omega), if_pos (by omega), if_neg (by omega)]; rfl
  · rw [decide_eq_false h3, cond_false, i64_id (by omega) (by omega), decide_eq_false (by omega), cond_false, shl_one (by omega), if_neg (by omega), if_pos (by omega)]; rfl
theorem Either_eq (h l h' l' : Nat) (hh : h < B64) (hl : l < B64) (hh' : h' < B64) (hl' : l' < B64) : fields_Set_Either ((h : Int), (l : Int), ()) ((h' : Int), (l' : Int), ()) = some (((h ||| h' : Nat) : Int), ((l ||| l' : Nat) : Int), ()) := by
  unfold fields_Set_Either fields_Set_Either_s0
  rw [or64 hh hh', or64 hl hl']
theorem Both_eq (h l h' l' : Nat) (hh : h < B64) (hl : l < B64) (hh' : h' < B64) (hl' : l' < B64) : fields_Set_Both ((h : Int), (l : Int), ()) ((h' : Int), (l' : Int), ()) = some (((h &&& h' : Nat) : Int), ((l &&& l' : Nat) : Int), ()) := by
  unfold fields_Set_Both fields_Set_Both_s0
  rw [and64 hh hh', and64 hl hl']
theorem With_eq (h l : Nat) (hh : h < B64) (hl : l < B64) (n : Int) : fields_Set_With ((h : Int), (l : Int), ()) n = some (((h ||| bitH n : Nat) : Int), ((l ||| bitL n : Nat) : Int), ()) := by
  unfold fields_Set_With fields_Set_With_s0
  rw [bit_eq, some_bind, Either_eq h l _ _ hh hl (bitH_lt n) (bitL_lt n)]; rfl
theorem or_lt {a b : Nat} (ha : a < B64) (hb : b < B64) : a ||| b < B64 := Nat.or_lt_two_pow (n := 64) ha hb
theorem and_lt {a b : Nat} (ha : a < B64) : a &&& b < B64 := Nat.lt_of_le_of_lt Nat.and_le_left ha
theorem has_or (h l h' l' : Nat) (n : Int) : hasN (h ||| h') (l ||| l') n = (hasN h l n || hasN h' l' n) := by
  unfold hasN; split
  · rw [Nat.testBit_or]
  · split
    · rw [Nat.testBit_or]
    · rfl
theorem has_and (h l h' l' : Nat) (n : Int) : hasN (h &&& h') (l &&& l') n = (hasN h l n && hasN h' l' n) := by
  unfold hasN; split
  · rw [Nat.testBit_and]
  · split
    · rw [Nat.testBit_and]
    · rfl
def inR (n : Int) : Bool := decide (1 ≤ n ∧ n ≤ 128)
theorem has_bit (m n : Int) : hasN (bitH m) (bitL m) n = (decide (m = n) && inR n) := by
  unfold hasN bitH bitL inR
  by_cases h1 : 1 ≤ n ∧ n ≤ 64
  · rw [if_pos h1]
    by_cases h2 : 1 ≤ m ∧ m ≤ 64
    · rw [if_pos h2, Nat.testBit_two_pow, decide_eq_true (p := 1 ≤ n ∧ n ≤ 128) (by omega), Bool.and_true]
      exact decide_eq_decide.2 (by omega)
    · rw [if_neg h2, decide_eq_false (by omega : ¬ m = n)]; simp
  · rw [if_neg h1]
    by_cases h3 : 65 ≤ n ∧ n ≤ 128
    · rw [if_pos h3]
      by_cases h2 : 65 ≤ m ∧ m ≤ 128
      · rw [if_pos h2, Nat.testBit_two_pow, decide_eq_true (p := 1 ≤ n ∧ n ≤ 128) (by omega), Bool.and_true]
        exact decide_eq_decide.2 (by omega)
      · rw [if_neg h2, decide_eq_false (by omega : ¬ m = n)]; simp
    · rw [if_neg h3, decide_eq_false (p := 1 ≤ n ∧ n ≤ 128) (by omega), Bool.and_false]
theorem has_with (h l : Nat) (m n : Int) : hasN (h ||| bitH m) (l ||| bitL m) n = (hasN h l n || (decide (m = n) && inR n)) := by rw [has_or, has_bit]
theorem set_ext {h l h' l' : Nat} (hh : h < B64) (hl : l < B64) (hh' : h' < B64) (hl' : l' < B64) (e : ∀ n : Int, 1 ≤ n → n ≤ 128 → hasN h l n = hasN h' l' n) : h = h' ∧ l = l' := by
  constructor
  · apply Nat.eq_of_testBit_eq
    intro i
    by_cases hi : i < 64
    · have := e (64 - i) (by omega) (by omega)
      unfold hasN at this
      rw [if_pos (by omega), if_pos (by omega)] at this
      have e2 : (64 - (64 - (i : Int))).toNat = i := by omega
      rwa [e2] at this
    · rw [Nat.testBit_lt_two_pow (Nat.lt_of_lt_of_le hh (Nat.pow_le_pow_right (n := 2) (by decide) (by omega : 64 ≤ i))), Nat.testBit_lt_two_pow (Nat.lt_of_lt_of_le hh' (Nat.pow_le_pow_right (n := 2) (by decide) (by omega : 64 ≤ i)))]
  · apply Nat.eq_of_testBit_eq
    intro i
    by_cases hi : i < 64
    · have := e (128 - i) (by omega) (by omega)
      unfold hasN at this
      have h1 : ¬ (1 ≤ 128 - (i : Int) ∧ 128 - (i : Int) ≤ 64) := by omega
      have h2 : 65 ≤ 128 - (i : Int) ∧ 128 - (i : Int) ≤ 128 := by omega
      rw [if_neg h1, if_pos h2, if_neg h1, if_pos h2] at this
      have e2 : (128 - (128 - (i : Int))).toNat = i := by omega
      rwa [e2] at this
    · rw [Nat.testBit_lt_two_pow (Nat.lt_of_lt_of_le hl (Nat.pow_le_pow_right (n := 2) (by decide) (by omega : 64 ≤ i))), Nat.testBit_lt_two_pow (Nat.lt_of_lt_of_le hl' (Nat.pow_le_pow_right (n := 2) (by decide) (by omega : 64 ≤ i)))]
def setH (l : List Int) : Nat := l.foldl (fun a n => a ||| bitH n) 0
def setL (l : List Int) : Nat := l.foldl (fun a n => a ||| bitL n) 0
theorem fold_or_lt (f : Int → Nat) (hf : ∀ n, f n < B64) (l : List Int) : ∀ a, a < B64 → l.foldl (fun a n => a ||| f n) a < B64 := by
  induction l with
  | nil => intro a h; exact h
  | cons x r ih => intro a h; exact ih _ (or_lt h (hf x))
theorem setH_lt (l : List Int) : setH l < B64 := fold_or_lt _ bitH_lt l 0 (by decide)
theorem setL_lt (l : List Int) : setL l < B64 := fold_or_lt _ bitL_lt l 0 (by decide)
theorem fold_has (l : List Int) : ∀ (a b : Nat) (n : Int), hasN (l.foldl (fun a n => a ||| bitH n) a) (l.foldl (fun a n => a ||| bitL n) b) n = (hasN a b n || (decide (n ∈ l) && inR n)) := by
  induction l with
  | nil => intro a b n; simp
  | cons x r ih =>
    intro a b n
    rw [List.foldl_cons, List.foldl_cons, ih, has_with]
    by_cases h1 : x = n
    · subst h1; cases inR x <;> simp
    · have : n ≠ x := fun e => h1 e.symm
      simp [h1, this]
theorem set_has (l : List Int) (n : Int) : hasN (setH l) (setL l) n = (decide (n ∈ l) && inR n) := by
  unfold setH setL
  rw [fold_has]
  have : hasN 0 0 n = false := by unfold hasN; simp
  rw [this]; simp
theorem of_loop (xs : List Int) (hx : xs.length ≤ 9223372036854775807) (b0 : FSet) : ∀ (n j k : Nat) (a b : Nat), j + n = xs.length → n < k → a < B64 → b < B64 →
    fields_Of_l0 k xs (xs.length : Int) j b0 ((a : Int), (b : Int), ()) = some (b0, ((((xs.drop j).foldl (fun a n => a ||| bitH n) a : Nat) : Int), (((xs.drop j).foldl (fun a n => a ||| bitL n) b : Nat) : Int), ())) := by
  intro n
  induction n with
  | zero =>
    intro j k a b hj hk ha hb
    obtain ⟨k, rfl⟩ : ∃ k', k = k' + 1 := ⟨k - 1, by omega⟩
    rw [fields_Of_l0, fields_Of_s1, decide_eq_false (by omega), List.drop_eq_nil_of_le (by omega)]; rfl
  | succ n ih =>
    intro j k a b hj hk ha hb
    obtain ⟨k, rfl⟩ : ∃ k', k = k' + 1 := ⟨k - 1, by omega⟩
    have hlt : j < xs.length := by omega
    have hx' : xs.getD ((j : Int)).toNat 0 = xs[j] := by rw [Int.toNat_natCast, List.getD_eq_getElem?_getD, List.getElem?_eq_getElem hlt]; rfl
    rw [fields_Of_l0, fields_Of_s1, decide_eq_true (by omega), cond_true, within_nat_lt hlt, hx', With_eq a b ha hb, some_bind, i64_succ (by omega), ih (j + 1) k _ _ (by omega) (by omega) (or_lt ha (bitH_lt _)) (or_lt hb (bitL_lt _)), List.drop_eq_getElem_cons hlt]
    rfl
theorem Of_eq (xs : List Int) (hx : xs.length ≤ maxLen) : fields_Of xs = some ((setH xs : Int), (setL xs : Int), ()) := by
  rw [maxLen_eq] at hx
  unfold fields_Of fields_Of_s0
  have := of_loop xs hx (0, 0, ()) xs.length 0 FUEL 0 0 (by omega) (by rw [fuel_eq]; omega) (by decide) (by decide)
  simp only [fields_Of_s2]
  have e : fields_Of_l0 FUEL xs (xs.length : Int) 0 (0, 0, ()) (0, 0, ()) = _ := this
  rw [e]; rfl
end Groat
set_option linter.unusedVariables false
set_option linter.unusedSimpArgs false
namespace Groat
open Go Go.Ref
theorem ofInt_nat (n a : Nat) (h : a < 2 ^ n) : (BitVec.ofInt n (a : Int)).toNat = a := by
  rw [BitVec.toNat_ofInt]
  have h2 : ((a : Int) % ((2 ^ n : Nat) : Int)) = ((a % 2 ^ n : Nat) : Int) := by rfl
  rw [h2, Int.toNat_natCast, Nat.mod_eq_of_lt h]
theorem ibits_or_nat {k : IntKind} {a b : Nat} (ha : a < 2 ^ k.bits) (hb : b < 2 ^ k.bits) : ibits .or k a b = k.wrap ((a ||| b : Nat) : Int) := by
  simp only [ibits, BitVec.toNat_or, ofInt_nat _ _ ha, ofInt_nat _ _ hb]
theorem or_bytes {x y : Int} (hx : isByte x) (hy : isByte y) : ibits .or .i64 (IntKind.i64.wrap (IntKind.i64.wrap x * 2 ^ min (8 : Int).toNat 64)) (IntKind.i64.wrap y) = x * 256 + y := by
  unfold isByte at hx hy
  obtain ⟨x, rfl⟩ := Int.eq_ofNat_of_zero_le hx.1
  obtain ⟨y, rfl⟩ := Int.eq_ofNat_of_zero_le hy.1
  rw [i64_nat (by omega), i64_nat (by omega)]
  have h1 : ((x : Int) * (2 : Int) ^ min (8 : Int).toNat 64) = ((x <<< 8 : Nat) : Int) := by
    rw [Nat.shiftLeft_eq]; rfl
  have h3 : x <<< 8 = x * 256 := by rw [Nat.shiftLeft_eq]
  rw [h1, i64_nat (by omega), ibits_or_nat (by simp only [IntKind.bits]; omega) (by simp only [IntKind.bits]; omega), ← Nat.shiftLeft_add_eq_or_of_lt (by omega : y < 2 ^ 8), h3, i64_nat (by omega)]
  omega
theorem getD_byte {b : List Int} (hb : ∀ x ∈ b, isByte x) (i : Nat) : isByte (b.getD i 0) := by
  rw [List.getD_eq_getElem?_getD]
  cases h : b[i]? with
  | none => exact ⟨by simp, by simp⟩
  | some x => exact hb x (List.mem_of_getElem? h)
end Groat
set_option linter.unusedVariables false
set_option linter.unusedSimpArgs false
namespace Groat
open Go Go.Ref
section
variable {α : Type} [DecidableEq α]
theorem same_loop' (d : α) (eq : α → α → Bool) (heq : ∀ x y, eq x y = true ↔ x = y) (a b : List α) (hl : a.length = b.length) (h : a.length ≤ 9223372036854775807) (L : Nat → Int → Option (Sum Bool Unit))
    (step : ∀ k (i : Int), L (k + 1) i = bif decide (i < (a.length : Int)) then within i a.length (within i b.length (bif !(eq (a.getD i.toNat d) (b.getD i.toNat d)) then some (.inl false) else L k (IntKind.i64.wrap (i + 1)))) else some (.inr ())) :
    ∀ (m j k : Nat), j + m = a.length → m < k → L k j = some (if a.drop j = b.drop j then .inr () else .inl false)
  | 0, j, k, hj, hk => by
    obtain ⟨k, rfl⟩ : ∃ k', k = k' + 1 := ⟨k - 1, by omega⟩
    rw [step, decide_eq_false (by omega), List.drop_eq_nil_of_le (by omega), List.drop_eq_nil_of_le (by omega)]
    simp
  | m + 1, j, k, hj, hk => by
    obtain ⟨k, rfl⟩ : ∃ k', k = k' + 1 := ⟨k - 1, by omega⟩
    have ha : j < a.length := by omega
    have hb : j < b.length := by omega
    rw [step, decide_eq_true (by omega), cond_true, within_nat_lt ha, within_nat_lt hb, i64_succ (by omega), same_loop' d eq heq a b hl h L step m (j + 1) k (by omega) (by omega), List.drop_eq_getElem_cons ha, List.drop_eq_getElem_cons hb, Int.toNat_natCast]
    have h1 : a.getD j d = a[j] := by rw [List.getD_eq_getElem?_getD, List.getElem?_eq_getElem ha]; rfl
    have h2 : b.getD j d = b[j] := by rw [List.getD_eq_getElem?_getD, List.getElem?_eq_getElem hb]; rfl
    rw [h1, h2]
    by_cases e : a[j] = b[j]
    · rw [(heq _ _).2 e, e]
      simp only [List.cons.injEq, true_and, Bool.not_true, cond_false]
    · have : eq a[j] b[j] = false := by
        cases hh : eq a[j] b[j] with
        | false => rfl
        | true => exact absurd ((heq _ _).1 hh) e
      rw [this]
      simp only [List.cons.injEq, e, false_and, if_false, Bool.not_false, cond_true]
theorem same_loop (d : α) (eq : α → α → Bool) (heq : ∀ x y, eq x y = true ↔ x = y) (a b : List α) (hl : a.length = b.length) (h : a.length ≤ maxLen) (L : Nat → Int → Option (Sum Bool Unit))
    (step : ∀ k (i : Int), L (k + 1) i = bif decide (i < (a.length : Int)) then within i a.length (within i b.length (bif !(eq (a.getD i.toNat d) (b.getD i.toNat d)) then some (.inl false) else L k (IntKind.i64.wrap (i + 1)))) else some (.inr ())) :
    L FUEL 0 = some (if a = b then .inr () else .inl false) := by
  have := same_loop' d eq heq a b hl (by rw [maxLen_eq] at h; exact h) L step a.length 0 FUEL (by omega) (by rw [fuel_eq]; rw [maxLen_eq] at h; omega)
  simpa using this
end
end Groat
set_option linter.unusedVariables false
set_option linter.unusedSimpArgs false
namespace Groat
open Go Go.Ref
end Groat
set_option linter.unusedVariables false
set_option linter.unusedSimpArgs false
namespace Groat
open Go Go.Ref
abbrev Spec := Int × Int × Int × Int × Int × Unit
abbrev Schema := Int × Int × List Spec × Unit
abbrev spec0 : Spec := (0, 0, 0, 0, 0, ())
theorem sets_eq (c : Int) : class_sets c = some (if c = 1 then 1 else if c = 2 then 2 else if c = 3 then 3 else if c = 4 then 7 else if c = 5 then 15 else if c = 6 then 15 else 0) := by
  unfold class_sets class_sets_s0
  simp only [bif_dec]
  repeat' split
  all_goals rfl
theorem Known_eq (c : Int) : class_Known c = some (decide (1 ≤ c ∧ c ≤ 6)) := by
  unfold class_Known class_Known_s0
  rw [sets_eq, some_bind]
  congr 1
  by_cases h1 : c = 1
  · subst h1; rfl
  by_cases h2 : c = 2
  · subst h2; rfl
  by_cases h3 : c = 3
  · subst h3; rfl
  by_cases h4 : c = 4
  · subst h4; rfl
  by_cases h5 : c = 5
  · subst h5; rfl
  by_cases h6 : c = 6
  · subst h6; rfl
  rw [if_neg h1, if_neg h2, if_neg h3, if_neg h4, if_neg h5, if_neg h6, decide_eq_false (p := 1 ≤ c ∧ c ≤ 6) (by omega)]
  rfl
theorem Most2 : prefix_Most 2 = some 99 := by kernel_rfl
theorem Most3 : prefix_Most 3 = some 999 := by kernel_rfl
def specC (s : Spec) : Int :=
  if s.1 < 2 ∨ 128 < s.1 then 1 else if s.2.1 < 1 ∨ 6 < s.2.1 then 6 else if s.2.2.1 < 1 ∨ 3 < s.2.2.1 then 3
  else if s.2.2.2.1 < 1 ∨ s.2.2.2.2.1 < s.2.2.2.1 ∨ (s.2.2.1 = 2 ∧ 99 < s.2.2.2.2.1) ∨ 999 < s.2.2.2.2.1 ∨ (s.2.2.1 = 1 ∧ ¬ s.2.2.2.1 = s.2.2.2.2.1) then 5
  else if s.2.2.1 = 1 ∧ s.2.1 = 6 then 13 else 0
theorem specCheck_eq (s : Spec) : spec_Check s = some (specC s) := by
  obtain ⟨no, c, f, mn, mx, u⟩ := s
  unfold spec_Check spec_Check_s0 specC
  simp only [Known_eq, some_bind]
  by_cases h1 : no < 2 ∨ 128 < no
  · rw [if_pos h1]
    rcases h1 with h | h
    · rw [decide_eq_true h]; rfl
    · rw [decide_eq_true h]; cases decide (no < 2) <;> rfl
  rw [if_neg h1, decide_eq_false (by omega), decide_eq_false (by omega)]
  by_cases h2 : c < 1 ∨ 6 < c
  · rw [if_pos h2, decide_eq_false (p := 1 ≤ c ∧ c ≤ 6) (by omega)]; rfl
  rw [if_neg h2, decide_eq_true (p := 1 ≤ c ∧ c ≤ 6) (by omega)]
  simp only [cond_false, Bool.not_true]
  by_cases h3 : f < 1 ∨ 3 < f
  · rw [if_pos h3]
    rcases h3 with h | h
    · rw [decide_eq_true h]; rfl
    · rw [decide_eq_true h]; cases decide (f < 1) <;> rfl
  rw [if_neg h3, decide_eq_false (by omega), decide_eq_false (by omega)]
  simp only [cond_false]
  by_cases h4 : mn < 1 ∨ mx < mn ∨ 999 < mx
  · rw [if_pos (by omega)]
    by_cases a : mn < 1
    · rw [decide_eq_true a]; rfl
    rw [decide_eq_false a]
    by_cases b : mx < mn
    · rw [decide_eq_true b]; rfl
    rw [decide_eq_false b, decide_eq_true (by omega)]; rfl
  rw [decide_eq_false (by omega), decide_eq_false (by omega), decide_eq_false (by omega)]
  simp only [cond_false]
  by_cases f1 : f = 1
  · rw [decide_eq_true f1]
    simp only [cond_true, Bool.not_true, cond_false]
    by_cases e : mn = mx
    · rw [decide_eq_true e, if_neg (by omega)]
      by_cases e6 : c = 6
      · rw [decide_eq_true e6, if_pos (by omega)]; rfl
      · rw [decide_eq_false e6, if_neg (by omega)]; rfl
    · rw [decide_eq_false e, if_pos (by omega)]; rfl
  · rw [decide_eq_false f1]
    simp only [cond_false, Bool.not_false, cond_true]
    by_cases f2 : f = 2
    · subst f2
      rw [Most2, some_bind]
      by_cases h : 99 < mx
      · rw [decide_eq_true h, if_pos (by omega)]; rfl
      · rw [decide_eq_false h, if_neg (by omega), if_neg (by omega)]; rfl
    · have f3 : f = 3 := by omega
      subst f3
      rw [Most3, some_bind, decide_eq_false (by omega), if_neg (by omega), if_neg (by omega)]; rfl
theorem specCheck11_eq (s : Spec) : r11_Check s = some (specC s) := by
  obtain ⟨no, c, f, mn, mx, u⟩ := s
  unfold r11_Check r11_Check_s0 specC
  simp only
  by_cases h1 : no < 2 ∨ 128 < no
  · rw [if_pos h1]
    rcases h1 with h | h
    · rw [decide_eq_true h]; rfl
    · rw [decide_eq_true h]; cases decide (no < 2) <;> rfl
  rw [if_neg h1, decide_eq_false (by omega), decide_eq_false (by omega)]
  by_cases h2 : c < 1 ∨ 6 < c
  · rw [if_pos h2]
    rcases h2 with h | h
    · rw [decide_eq_true h]; rfl
    · rw [decide_eq_true h]; cases decide (c < 1) <;> rfl
  rw [if_neg h2, decide_eq_false (by omega), decide_eq_false (by omega)]
  by_cases h3 : f < 1 ∨ 3 < f
  · rw [if_pos h3]
    rcases h3 with h | h
    · rw [decide_eq_true h]; rfl
    · rw [decide_eq_true h]; cases decide (f < 1) <;> rfl
  rw [if_neg h3, decide_eq_false (by omega), decide_eq_false (by omega)]
  simp only [cond_false]
  by_cases f1 : f = 1
  · rw [decide_eq_true f1, decide_eq_false (by omega : ¬ f = 2)]
    simp only [cond_true, cond_false]
    by_cases a : mn < 1
    · rw [decide_eq_true a, if_pos (by omega)]; rfl
    rw [decide_eq_false a]
    by_cases b : mx < mn
    · rw [decide_eq_true b, if_pos (by omega)]; rfl
    rw [decide_eq_false b]
    by_cases d : 999 < mx
    · rw [decide_eq_true d, if_pos (by omega)]; rfl
    rw [decide_eq_false d]
    by_cases e : mn = mx
    · rw [decide_eq_true e, if_neg (by omega)]
      by_cases e6 : c = 6
      · rw [decide_eq_true e6, if_pos (by omega)]; rfl
      · rw [decide_eq_false e6, if_neg (by omega)]; rfl
    · rw [decide_eq_false e, if_pos (by omega)]; rfl
  · rw [decide_eq_false f1]
    simp only [cond_false]
    by_cases f2 : f = 2
    · rw [decide_eq_true f2]
      simp only [cond_true]
      by_cases a : mn < 1
      · rw [decide_eq_true a, if_pos (by omega)]; rfl
      rw [decide_eq_false a]
      by_cases b : mx < mn
      · rw [decide_eq_true b, if_pos (by omega)]; rfl
      rw [decide_eq_false b]
      by_cases d : 99 < mx
      · rw [decide_eq_true d, if_pos (by omega)]; rfl
      rw [decide_eq_false d, if_neg (by omega), if_neg (by omega)]; rfl
    · rw [decide_eq_false f2]
      simp only [cond_false]
      by_cases a : mn < 1
      · rw [decide_eq_true a, if_pos (by omega)]; rfl
      rw [decide_eq_false a]
      by_cases b : mx < mn
      · rw [decide_eq_true b, if_pos (by omega)]; rfl
      rw [decide_eq_false b]
      by_cases d : 999 < mx
      · rw [decide_eq_true d, if_pos (by omega)]; rfl
      rw [decide_eq_false d, if_neg (by omega), if_neg (by omega)]; rfl
def specsC : List Spec → Int → Int → Int × Int
  | [], _, _ => (0, 0)
  | x :: r, i, last => if specC x ≠ 0 then (specC x, i) else if x.1 ≤ last then (11, i) else specsC r (i + 1) x.1
def schemaC (s : Schema) : Int × Int :=
  if ¬ (s.1 = 1 ∨ s.1 = 2) then (1, -1) else if s.2.1 < 0 ∨ 9 < s.2.1 then (7, -1) else specsC s.2.2.1 0 0
theorem specC_no {x : Spec} (h : specC x = 0) : 2 ≤ x.1 ∧ x.1 ≤ 128 := by
  unfold specC at h
  split at h
  · cases h
  · omega
def excC (e : Sum (Int × Int) Unit) : Option (Int × Int) := Sum.elim (fun we => some (we.1, we.2)) (fun _ => some (0, 0)) e
theorem exc_specs (l : List Spec) : ∀ (i : Int) (last : Int), excC (if (specsC l i last).1 = 0 then .inr () else .inl (specsC l i last)) = some (specsC l i last) := by
  intro i last
  by_cases h : (specsC l i last).1 = 0
  · rw [if_pos h]
    have : specsC l i last = (0, 0) := by
      induction l generalizing i last with
      | nil => rfl
      | cons x r ih =>
        unfold specsC at h ⊢
        split
        · rename_i h1; rw [if_pos h1] at h; exact absurd h h1
        · rename_i h1
          rw [if_neg h1] at h
          split
          · rename_i h2; rw [if_pos h2] at h; cases h
          · rename_i h2; rw [if_neg h2] at h; exact ih _ _ h
    rw [this]; rfl
  · rw [if_neg h]; rfl
theorem check13_loop (s : Schema) (hl : s.2.2.1.length ≤ maxLen) : r13_Check_l0 FUEL 0 0 s = some (if (specsC s.2.2.1 0 0).1 = 0 then .inr () else .inl (specsC s.2.2.1 0 0)) := by
  have h := loopJ spec0 s.2.2.1 hl (fun i x (last : Int) K => if specC x ≠ 0 then some (.inl (specC x, i)) else if x.1 ≤ last then some (.inl (11, i)) else K x.1) (fun _ => some (.inr ())) (fun k i last => r13_Check_l0 k last i s)
    (fun k i last h0 h1 => by
      rw [r13_Check_l0, r13_Check_s1, decide_eq_true h1]
      simp only [cond_true, within_int h0 h1, specCheck11_eq, some_bind]
      by_cases hc : specC (s.2.2.1.getD i.toNat spec0) = 0
      · rw [decide_eq_true hc, if_neg (fun h => h hc)]
        simp only [Bool.not_true, cond_false]
        by_cases hn : (s.2.2.1.getD i.toNat spec0).1 ≤ last
        · rw [decide_eq_true hn, if_pos hn]; rfl
        · rw [decide_eq_false hn, if_neg hn]; rfl
      · rw [decide_eq_false hc, if_pos hc]; rfl)
    (fun k last => by rw [r13_Check_l0, r13_Check_s1, decide_eq_false (by omega)]; rfl) 0
  rw [h]
  clear h hl
  generalize s.2.2.1 = l
  suffices ∀ (i last : Int), runI (fun i (x : Spec) (last : Int) K => if specC x ≠ 0 then some (Sum.inl (specC x, i)) else if x.1 ≤ last then some (.inl (11, i)) else K x.1) (fun _ => some (.inr ())) l i last = some (if (specsC l i last).1 = 0 then (.inr () : Sum (Int × Int) Unit) else .inl (specsC l i last)) from this 0 0
  induction l with
  | nil => intro i last; rfl
  | cons x r ih =>
    intro i last
    rw [runI, specsC]
    by_cases hc : specC x ≠ 0
    · rw [if_pos hc, if_pos hc, if_neg hc]
    · rw [if_neg hc, if_neg hc]
      by_cases hn : x.1 ≤ last
      · rw [if_pos hn, if_pos hn]; rfl
      · rw [if_neg hn, if_neg hn]; exact ih _ _
theorem Check13_eq (s : Schema) (hl : s.2.2.1.length ≤ maxLen) : r13_Check s = some (schemaC s) := by
  unfold r13_Check r13_Check_s0 schemaC
  have hx := exc_specs s.2.2.1 0 0
  have hloop : (r13_Check_l0 FUEL 0 0 s).bind (fun e => Sum.elim (fun (we : Int × Int) => r13_Check_s2 we.1 we.2 fun a0 a1 => some (a0, a1)) (fun (we : Unit) => r13_Check_s3 fun a0 a1 => some (a0, a1)) e) = some (specsC s.2.2.1 0 0) := by
    rw [check13_loop s hl, some_bind]; exact hx
  dsimp only
  rw [hloop]
  by_cases h1 : s.1 = 1
  · rw [decide_eq_true h1, if_neg (by omega)]
    by_cases h2 : s.2.1 < 0
    · rw [decide_eq_true h2, if_pos (.inl h2)]; rfl
    · rw [decide_eq_false h2]
      by_cases h3 : 9 < s.2.1
      · rw [decide_eq_true h3, if_pos (.inr h3)]; rfl
      · rw [decide_eq_false h3, if_neg (by omega)]; rfl
  · rw [decide_eq_false h1]
    by_cases h0 : s.1 = 2
    · rw [decide_eq_true h0, if_neg (by omega)]
      by_cases h2 : s.2.1 < 0
      · rw [decide_eq_true h2, if_pos (.inl h2)]; rfl
      · rw [decide_eq_false h2]
        by_cases h3 : 9 < s.2.1
        · rw [decide_eq_true h3, if_pos (.inr h3)]; rfl
        · rw [decide_eq_false h3, if_neg (by omega)]; rfl
    · rw [decide_eq_false h0, if_pos (by omega)]; rfl
theorem getD_spec {l : List Spec} {j : Nat} (h : j < l.length) : l.getD ((j : Int)).toNat ((0 : Int), (0 : Int), (0 : Int), (0 : Int), (0 : Int), ()) = l[j] := by
  rw [Int.toNat_natCast, List.getD_eq_getElem?_getD, List.getElem?_eq_getElem h]; rfl
theorem check_loop (s : Schema) (hl : s.2.2.1.length ≤ 9223372036854775807) : ∀ (m j k : Nat) (last : Int), j + m = s.2.2.1.length → m < k → (j = 0 → last = 0) → (∀ h : 0 < j, last = (s.2.2.1.getD (j - 1) spec0).1) →
    schema_Check_l0 k s.2.2.1 (s.2.2.1.length : Int) j s = some (if (specsC (s.2.2.1.drop j) j last).1 = 0 then .inr () else .inl (specsC (s.2.2.1.drop j) j last)) := by
  intro m
  induction m with
  | zero =>
    intro j k last hj hk h0 h1
    obtain ⟨k, rfl⟩ : ∃ k', k = k' + 1 := ⟨k - 1, by omega⟩
    rw [schema_Check_l0, schema_Check_s1, decide_eq_false (by omega), List.drop_eq_nil_of_le (by omega)]; rfl
  | succ m ih =>
    intro j k last hj hk h0 h1
    obtain ⟨k, rfl⟩ : ∃ k', k = k' + 1 := ⟨k - 1, by omega⟩
    have hlt : j < s.2.2.1.length := by omega
    have ihj := ih (j + 1) k (s.2.2.1[j]).1 (by omega) (by omega) (by omega) (fun _ => by
      rw [Nat.add_sub_cancel, List.getD_eq_getElem?_getD, List.getElem?_eq_getElem hlt]; rfl)
    rw [schema_Check_l0, schema_Check_s1, decide_eq_true (by omega), cond_true, within_nat_lt hlt, getD_spec hlt, specCheck_eq, some_bind, i64_succ (by omega), List.drop_eq_getElem_cons hlt]
    rw [show ((j + 1 : Nat) : Int) = (j : Int) + 1 from rfl] at ihj ⊢
    by_cases hc : specC s.2.2.1[j] = 0
    · rw [decide_eq_true hc]
      simp only [Bool.not_true, cond_false]
      have hno := specC_no hc
      by_cases hz : j = 0
      · have hlast := h0 hz
        have e : specsC (s.2.2.1[j] :: s.2.2.1.drop (j + 1)) j last = specsC (s.2.2.1.drop (j + 1)) ((j : Int) + 1) (s.2.2.1[j]).1 := by
          rw [specsC, if_neg (fun h => h hc), if_neg (by omega)]
        rw [decide_eq_false (by omega), cond_false, e]
        exact ihj
      · have hlast := h1 (by omega)
        have hi : IntKind.i64.wrap ((j : Int) - 1) = ((j - 1 : Nat) : Int) := by rw [i64_id (by omega) (by omega)]; omega
        rw [decide_eq_true (by omega), cond_true, hi, within_nat_lt (by omega), Int.toNat_natCast]
        by_cases hn : (s.2.2.1[j]).1 ≤ last
        · have e : specsC (s.2.2.1[j] :: s.2.2.1.drop (j + 1)) j last = (11, (j : Int)) := by
            rw [specsC, if_neg (fun h => h hc), if_pos hn]
          rw [e, decide_eq_true (by rw [← hlast]; exact hn)]; rfl
        · have e : specsC (s.2.2.1[j] :: s.2.2.1.drop (j + 1)) j last = specsC (s.2.2.1.drop (j + 1)) ((j : Int) + 1) (s.2.2.1[j]).1 := by
            rw [specsC, if_neg (fun h => h hc), if_neg hn]
          rw [e, decide_eq_false (by rw [← hlast]; exact hn)]
          exact ihj
    · have e : specsC (s.2.2.1[j] :: s.2.2.1.drop (j + 1)) j last = (specC s.2.2.1[j], (j : Int)) := by
        rw [specsC, if_pos hc]
      rw [decide_eq_false hc, e, if_neg hc]; rfl
theorem Check_eq (s : Schema) (hl : s.2.2.1.length ≤ maxLen) : schema_Check s = some (schemaC s) := by
  rw [maxLen_eq] at hl
  unfold schema_Check schema_Check_s0 schemaC
  have hx := exc_specs s.2.2.1 0 0
  have hl0 := check_loop s hl s.2.2.1.length 0 FUEL 0 (by omega) (by rw [fuel_eq]; omega) (fun _ => rfl) (fun h => absurd h (by omega))
  rw [List.drop_zero, show ((0 : Nat) : Int) = 0 from rfl] at hl0
  have hloop : (schema_Check_l0 FUEL s.2.2.1 (s.2.2.1.length : Int) 0 s).bind (fun e => Sum.elim (fun (we : Int × Int) => schema_Check_s2 we.1 we.2 fun a0 a1 => some (a0, a1)) (fun (we : Unit) => schema_Check_s3 fun a0 a1 => some (a0, a1)) e) = some (specsC s.2.2.1 0 0) := by
    rw [hl0, some_bind]; exact hx
  dsimp only
  rw [hloop]
  by_cases h1 : s.1 = 1
  · rw [decide_eq_true h1, if_neg (by omega)]
    by_cases h2 : s.2.1 < 0
    · rw [decide_eq_true h2, if_pos (.inl h2)]; rfl
    · rw [decide_eq_false h2]
      by_cases h3 : 9 < s.2.1
      · rw [decide_eq_true h3, if_pos (.inr h3)]; rfl
      · rw [decide_eq_false h3, if_neg (by omega)]; rfl
  · rw [decide_eq_false h1]
    by_cases h0 : s.1 = 2
    · rw [decide_eq_true h0, if_neg (by omega)]
      by_cases h2 : s.2.1 < 0
      · rw [decide_eq_true h2, if_pos (.inl h2)]; rfl
      · rw [decide_eq_false h2]
        by_cases h3 : 9 < s.2.1
        · rw [decide_eq_true h3, if_pos (.inr h3)]; rfl
        · rw [decide_eq_false h3, if_neg (by omega)]; rfl
    · rw [decide_eq_false h0, if_pos (by omega)]; rfl
def findS (l : List Spec) (no : Int) : Option Spec := l.find? fun x => decide (x.1 = no)
def idxS : List Spec → Int → Int → Int
  | [], _, _ => -1
  | x :: r, no, i => if x.1 = no then i else idxS r no (i + 1)
theorem Find_eq (s : Schema) (no : Int) (hl : s.2.2.1.length ≤ maxLen) : schema_Find s no = some (match findS s.2.2.1 no with | some x => (x, true) | none => (spec0, false)) := by
  unfold schema_Find schema_Find_s0 findS
  dsimp only
  have h := loopI spec0 s.2.2.1 hl (fun i x (_ : Unit) K => bif decide (x.1 = no) then some (Sum.inl (true, x)) else K ()) (fun _ => some (.inr spec0)) (fun k i _ => schema_Find_l0 k no s.2.2.1 (s.2.2.1.length : Int) i spec0) (fun k i _ => rfl) ()
  rw [h, ]
  clear h hl
  generalize (0 : Int) = i
  generalize s.2.2.1 = l
  induction l generalizing i with
  | nil => rfl
  | cons x r ih =>
    rw [runI, List.find?_cons]
    cases hx : decide (x.1 = no) with
    | true => rfl
    | false => exact ih (i + 1)
theorem idxS_range (l : List Spec) (no : Int) : ∀ i : Int, 0 ≤ i → (idxS l no i = -1 ∧ findS l no = none) ∨ (i ≤ idxS l no i ∧ idxS l no i < i + l.length ∧ ∃ x, findS l no = some x ∧ l.getD (idxS l no i - i).toNat spec0 = x) := by
  induction l with
  | nil => intro i hi; left; exact ⟨rfl, rfl⟩
  | cons x r ih =>
    intro i hi
    unfold idxS findS
    by_cases h : x.1 = no
    · right
      rw [if_pos h, List.find?_cons, decide_eq_true h]
      refine ⟨by omega, by simp; omega, x, rfl, by simp⟩
    · rw [if_neg h, List.find?_cons, decide_eq_false h]
      rcases ih (i + 1) (by omega) with ⟨h1, h2⟩ | ⟨h1, h2, y, h3, h4⟩
      · left; exact ⟨h1, h2⟩
      · right
        refine ⟨by omega, by simp; omega, y, h3, ?_⟩
        have : (idxS r no (i + 1) - i).toNat = (idxS r no (i + 1) - (i + 1)).toNat + 1 := by omega
        rw [this]
        simpa using h4
theorem Find13_eq (s : Schema) (no : Int) (hl : s.2.2.1.length ≤ maxLen) : r13_Find s no = some (idxS s.2.2.1 no 0) := by
  unfold r13_Find r13_Find_s0
  dsimp only
  have h := loopI spec0 s.2.2.1 hl (fun i x (_ : Unit) K => bif decide (x.1 = no) then some (Sum.inl i) else K ()) (fun _ => some (.inr ())) (fun k i _ => r13_Find_l0 k no i s) (fun k i _ => rfl) ()
  rw [h]
  clear h hl
  generalize (0 : Int) = i
  generalize s.2.2.1 = l
  induction l generalizing i with
  | nil => rfl
  | cons x r ih =>
    rw [runI, idxS]
    by_cases hx : x.1 = no
    · rw [decide_eq_true hx, if_pos hx]; rfl
    · rw [decide_eq_false hx, if_neg hx]; exact ih (i + 1)
theorem hasN_zero (n : Int) : hasN 0 0 n = false := by unfold hasN; simp
theorem schema_ext {a b : Schema} : a = b ↔ a.1 = b.1 ∧ a.2.1 = b.2.1 ∧ a.2.2.1 = b.2.2.1 := by
  obtain ⟨x, y, z, u⟩ := a
  obtain ⟨x', y', z', u'⟩ := b
  simp
instance : DecidableEq Schema := fun a b => decidable_of_iff _ schema_ext.symm
def OkSpecs (l : List Spec) (last : Int) : Prop := (∀ x ∈ l, specC x = 0) ∧ (l.Pairwise fun x y => x.1 < y.1) ∧ ∀ x ∈ l, last < x.1
theorem specsC_ok (l : List Spec) : ∀ (i last : Int), (specsC l i last).1 = 0 ↔ OkSpecs l last := by
  induction l with
  | nil => intro i last; simp [specsC, OkSpecs]
  | cons x r ih =>
    intro i last
    unfold specsC
    by_cases hc : specC x = 0
    · rw [if_neg (fun h => h hc)]
      by_cases hn : x.1 ≤ last
      · rw [if_pos hn]
        constructor
        · intro h; cases h
        · intro ⟨_, _, h3⟩; have := h3 x (by simp); omega
      · rw [if_neg hn, ih]
        constructor
        · intro ⟨h1, h2, h3⟩
          refine ⟨fun y hy => ?_, List.pairwise_cons.2 ⟨h3, h2⟩, fun y hy => ?_⟩
          · rcases List.mem_cons.1 hy with rfl | hy
            · exact hc
            · exact h1 y hy
          · rcases List.mem_cons.1 hy with rfl | hy
            · omega
            · have := h3 y hy; omega
        · intro ⟨h1, h2, h3⟩
          obtain ⟨h4, h5⟩ := List.pairwise_cons.1 h2
          exact ⟨fun y hy => h1 y (by simp [hy]), h5, h4⟩
    · rw [if_pos hc]
      constructor
      · intro h; exact absurd h hc
      · intro ⟨h1, _, _⟩; exact absurd (h1 x (by simp)) hc
def Okay (s : Schema) : Prop := (s.1 = 1 ∨ s.1 = 2) ∧ 0 ≤ s.2.1 ∧ s.2.1 ≤ 9 ∧ OkSpecs s.2.2.1 0
theorem schemaC_ok (s : Schema) : (schemaC s).1 = 0 ↔ Okay s := by
  unfold schemaC Okay
  by_cases h1 : s.1 = 1 ∨ s.1 = 2
  · rw [if_neg (fun h => h h1)]
    by_cases h2 : s.2.1 < 0 ∨ 9 < s.2.1
    · rw [if_pos h2]
      constructor
      · intro h; cases h
      · intro ⟨_, a, b, _⟩; omega
    · rw [if_neg h2, specsC_ok]
      constructor
      · intro h; exact ⟨h1, by omega, by omega, h⟩
      · intro ⟨_, _, _, h⟩; exact h
  · rw [if_pos h1]
    constructor
    · intro h; cases h
    · intro ⟨a, _⟩; exact absurd a h1
theorem OkSpecs.filter {l : List Spec} {last : Int} (h : OkSpecs l last) (p : Spec → Bool) : OkSpecs (l.filter p) last :=
  ⟨fun x hx => h.1 x (List.mem_filter.1 hx).1, h.2.1.filter p, fun x hx => h.2.2 x (List.mem_filter.1 hx).1⟩
theorem Right13_eq (s : Schema) (hl : s.2.2.1.length ≤ maxLen) : r13_Right s = some (decide ((schemaC s).1 = 0)) := by
  unfold r13_Right r13_Right_s0
  rw [Check13_eq s hl, some_bind]
end Groat
set_option linter.unusedVariables false
set_option linter.unusedSimpArgs false
namespace Groat
open Go Go.Ref
abbrev Pair := ByteArray × ByteArray × Unit
def pair0 : Pair := (bs [], bs [], ())
instance memDec (a : ByteArray) (l : List ByteArray) : Decidable (a ∈ l) := decidable_of_iff (l.any (fun x => decide (a = x)) = true) (by
  rw [List.any_eq_true]
  exact ⟨fun ⟨x, hx, h⟩ => of_decide_eq_true h ▸ hx, fun h => ⟨a, h, decide_eq_true rfl⟩⟩)
def exI (r : Int) : Sum Int Unit := if r = -1 then .inr () else .inl r
theorem exI_nat (j : Nat) : exI (j : Int) = .inl (j : Int) := if_neg (by omega)
def seenM {K : Type} (l : List K) : List (K × Bool) := l.map fun k => (k, true)
theorem mget_seen {K : Type} [DecidableEq K] (eq : K → K → Bool) (heq : ∀ x y, eq x y = decide (x = y)) (k : K) : ∀ l : List K, mget eq false (seenM l) k = true ↔ k ∈ l
  | [] => by simp [seenM, mget]
  | x :: l => by
    simp only [seenM, List.map_cons, mget, heq]
    by_cases h : k = x
    · rw [decide_eq_true h, cond_true]; exact ⟨fun _ => by rw [h]; exact List.mem_cons_self, fun _ => rfl⟩
    · rw [decide_eq_false h, cond_false]
      have := mget_seen eq heq k l
      simp only [seenM] at this
      rw [this]
      exact ⟨fun h' => List.mem_cons_of_mem _ h', fun h' => (List.mem_cons.1 h').resolve_left h⟩
theorem mhas_seen {K : Type} [DecidableEq K] (eq : K → K → Bool) (heq : ∀ x y, eq x y = decide (x = y)) (k : K) : ∀ l : List K, mhas eq (seenM l) k = true ↔ k ∈ l
  | [] => by simp [seenM, mhas]
  | x :: l => by
    simp only [seenM, List.map_cons, mhas, heq]
    by_cases h : k = x
    · rw [decide_eq_true h, cond_true]; exact ⟨fun _ => by rw [h]; exact List.mem_cons_self, fun _ => rfl⟩
    · rw [decide_eq_false h, cond_false]
      have := mhas_seen eq heq k l
      simp only [seenM] at this
      rw [this]
      exact ⟨fun h' => List.mem_cons_of_mem _ h', fun h' => (List.mem_cons.1 h').resolve_left h⟩
theorem not_true' {b : Bool} {p : Prop} (h : b = true ↔ p) (hp : ¬ p) : b = false := by cases b with
  | false => rfl
  | true => exact absurd (h.1 rfl) hp
theorem seenM_append {K : Type} (l : List K) (k : K) : seenM l ++ [(k, true)] = seenM (l ++ [k]) := by simp [seenM]
def dupP : List ByteArray → List Pair → Int → Option Int
  | _, [], _ => none
  | seen, p :: r, i => if p.1 ∈ seen then some i else dupP (seen ++ [p.1]) r (i + 1)
def tableC (l : List Pair) : Int × Int := if 256 < l.length then (5, 256) else match dupP [] l 0 with
  | some i => (10, i)
  | none => (0, 0)
def dupR (o : Option Int) : Option (Sum (Int × Int) Unit) := some (match o with
  | some i => .inl (10, i)
  | none => .inr ())
theorem codesCheck_run (l : List Pair) : ∀ (i : Int) (seen : List ByteArray),
    runI (fun i (x : Pair) (s : List Zt3) K => bif mget (eqK .str) false s x.1 then some (Sum.inl ((10 : Int), i)) else bif mhas (eqK .str) s x.1 then none else K (s ++ [(x.1, true)])) (fun _ => some (Sum.inr ())) l i (seenM seen) = dupR (dupP seen l i) := by
  induction l with
  | nil => intro i seen; rfl
  | cons p r ih =>
    intro i seen
    simp only [runI, dupP]
    have e1 := mget_seen (eqK .str) (fun _ _ => rfl) p.1 seen
    have e2 := mhas_seen (eqK .str) (fun _ _ => rfl) p.1 seen
    by_cases h : p.1 ∈ seen
    · rw [e1.2 h, if_pos h]; rfl
    · rw [not_true' e1 h, not_true' e2 h, if_neg h, cond_false, cond_false, seenM_append]
      exact ih (i + 1) (seen ++ [p.1])
theorem codesCheck_eq (l : List Pair) (h : l.length ≤ maxLen) : codes_Check l = some (tableC l) := by
  unfold codes_Check codes_Check_s0 tableC
  dsimp only
  by_cases hl : 256 < l.length
  · rw [decide_eq_true (by omega), cond_true, if_pos hl]
  · rw [decide_eq_false (by omega), cond_false, if_neg hl]
    have := loopI pair0 l h (fun i (x : Pair) (s : List Zt3) K => bif mget (eqK .str) false s x.1 then some (Sum.inl ((10 : Int), i)) else bif mhas (eqK .str) s x.1 then none else K (s ++ [(x.1, true)])) (fun _ => some (Sum.inr ()))
      (fun k i s => codes_Check_l0 k l (l.length : Int) i s) (fun k i s => rfl) []
    rw [this]
    have h2 := codesCheck_run l 0 []
    rw [show seenM ([] : List ByteArray) = [] from rfl] at h2
    rw [h2]
    unfold dupR
    cases dupP [] l 0 <;> rfl
def idxP : List Pair → ByteArray → Int → Int
  | [], _, _ => -1
  | p :: r, f, i => if p.1 = f then i else idxP r f (i + 1)
theorem find19_loop (l : List Pair) (hl : l.length ≤ 9223372036854775807) (n : Nat) (hn : n ≤ l.length) (f : ByteArray) : ∀ (m j k : Nat), j + m = n → m < k → r19_find_l0 k l (n : Int) f (j : Int) = some (exI (idxP ((l.take n).drop j) f j))
  | m, j, 0, _, hk => by omega
  | 0, j, k + 1, hj, hk => by
    have : j = n := by omega
    subst this
    unfold r19_find_l0 r19_find_s1
    rw [decide_eq_false (by omega), List.drop_eq_nil_of_le (by rw [List.length_take]; omega)]
    rfl
  | m + 1, j, k + 1, hj, hk => by
    have hlt : j < l.length := by omega
    unfold r19_find_l0 r19_find_s1
    rw [decide_eq_true (by omega), cond_true, within_nat_lt hlt, Int.toNat_natCast]
    have hd : (l.take n).drop j = l[j] :: (l.take n).drop (j + 1) := by
      rw [List.drop_eq_getElem_cons (by simp; omega)]
      congr 1
      rw [List.getElem_take]
    have hg : ∀ d, l.getD j d = l[j] := fun d => by rw [List.getD_eq_getElem?_getD, List.getElem?_eq_getElem hlt]; rfl
    rw [hd]
    simp only [hg, idxP]
    by_cases h : l[j].1 = f
    · rw [decide_eq_true h, if_pos h, exI_nat]; rfl
    · rw [decide_eq_false h, if_neg h, cond_false, i64_succ (by omega), find19_loop l hl n hn f m (j + 1) k (by omega) (by omega)]
      rfl
theorem find19_eq (l : List Pair) (hl : l.length ≤ maxLen) (n : Nat) (hn : n ≤ l.length) (f : ByteArray) : r19_find l (n : Int) f = some (idxP (l.take n) f 0) := by
  rw [maxLen_eq] at hl
  unfold r19_find r19_find_s0
  dsimp only
  have := find19_loop l hl n hn f n 0 FUEL (by omega) (by rw [fuel_eq]; omega)
  rw [show ((0 : Nat) : Int) = (0 : Int) from rfl, List.drop_zero] at this
  rw [this, Option.bind_some]
  unfold exI
  by_cases h : idxP (l.take n) f 0 = -1
  · rw [if_pos h, h]; rfl
  · rw [if_neg h]; rfl
theorem idxP_none (f : ByteArray) : ∀ (l : List Pair) (i : Int), 0 ≤ i → (0 ≤ idxP l f i ↔ f ∈ l.map fun p => p.1)
  | [], i, _ => by simp [idxP]
  | p :: r, i, hi => by
    simp only [idxP, List.map_cons, List.mem_cons]
    by_cases h : p.1 = f
    · rw [if_pos h]; exact ⟨fun _ => .inl h.symm, fun _ => hi⟩
    · rw [if_neg h, idxP_none f r (i + 1) (by omega)]
      exact ⟨.inr, fun h' => h'.resolve_left (fun e => h e.symm)⟩
theorem check19_loop (l : List Pair) (hl : l.length ≤ 256) : ∀ (m j k : Nat), j + m = l.length → m < k → r19_Check_l0 k l (j : Int) = dupR (dupP ((l.take j).map fun p => p.1) (l.drop j) j)
  | m, j, 0, _, hk => by omega
  | 0, j, k + 1, hj, hk => by
    unfold r19_Check_l0 r19_Check_s1
    rw [decide_eq_false (by omega), List.drop_eq_nil_of_le (by omega)]
    rfl
  | m + 1, j, k + 1, hj, hk => by
    have hlt : j < l.length := by omega
    unfold r19_Check_l0 r19_Check_s1
    have hg : ∀ d, l.getD j d = l[j] := fun d => by rw [List.getD_eq_getElem?_getD, List.getElem?_eq_getElem hlt]; rfl
    rw [decide_eq_true (by omega), cond_true, within_nat_lt hlt, Int.toNat_natCast, hg, find19_eq l (by rw [maxLen_eq]; omega) j (by omega), Option.bind_some, List.drop_eq_getElem_cons hlt]
    simp only [dupP]
    have hm := idxP_none l[j].1 (l.take j) 0 (Int.le_refl _)
    by_cases h : l[j].1 ∈ (l.take j).map fun p => p.1
    · rw [decide_eq_true (hm.2 h), if_pos h]; rfl
    · rw [decide_eq_false (fun h' => h (hm.1 h')), if_neg h, cond_false, i64_succ (by omega), check19_loop l hl m (j + 1) k (by omega) (by omega)]
      congr 2
      rw [List.take_add_one, List.getElem?_eq_getElem hlt, List.map_append]
      rfl
theorem Check19_eq (l : List Pair) (h : l.length ≤ maxLen) : r19_Check l = some (tableC l) := by
  unfold r19_Check r19_Check_s0 tableC
  dsimp only
  by_cases hl : 256 < l.length
  · rw [decide_eq_true (by omega), cond_true, if_pos hl]
  · rw [decide_eq_false (by omega), cond_false, if_neg hl]
    have := check19_loop l (by omega) l.length 0 FUEL (by omega) (by rw [fuel_eq]; omega)
    rw [show ((0 : Nat) : Int) = (0 : Int) from rfl, List.take_zero, List.drop_zero] at this
    rw [this]
    unfold dupR
    simp only [List.map_nil]
    cases dupP [] l 0 <;> rfl
def applyP (l : List Pair) (f : ByteArray) : ByteArray × Bool := match l.find? fun p => decide (p.1 = f) with
  | some p => (p.2.1, true)
  | none => (bs [], false)
theorem codesApply_run (f : ByteArray) (l : List Pair) : ∀ (i : Int), runI (fun i (x : Pair) (s : Unit) K => bif decide (x.1 = f) then some (Sum.inl (x.2.1, true)) else K s) (fun _ => some (Sum.inr ())) l i () = some (match l.find? fun p => decide (p.1 = f) with
    | some p => .inl (p.2.1, true)
    | none => .inr ()) := by
  induction l with
  | nil => intro i; rfl
  | cons p r ih =>
    intro i
    simp only [runI, List.find?_cons]
    by_cases h : p.1 = f
    · rw [decide_eq_true h]; rfl
    · rw [decide_eq_false h, cond_false]; exact ih (i + 1)
theorem codesApply_eq (l : List Pair) (f : ByteArray) (h : l.length ≤ maxLen) : codes_Apply l f = some (applyP l f) := by
  unfold codes_Apply codes_Apply_s0 applyP
  dsimp only
  have := loopI pair0 l h (fun i (x : Pair) (s : Unit) K => bif decide (x.1 = f) then some (Sum.inl (x.2.1, true)) else K s) (fun _ => some (Sum.inr ()))
    (fun k i s => codes_Apply_l0 k f l (l.length : Int) i) (fun k i s => rfl) ()
  rw [this, codesApply_run]
  cases l.find? fun p => decide (p.1 = f) <;> rfl
theorem idxP_find (f : ByteArray) : ∀ (l : List Pair) (i : Int), 0 ≤ i → (idxP l f i = -1 ∧ l.find? (fun p => decide (p.1 = f)) = none) ∨ (i ≤ idxP l f i ∧ idxP l f i < i + l.length ∧ ∃ p, l.find? (fun p => decide (p.1 = f)) = some p ∧ ∀ d, l.getD (idxP l f i - i).toNat d = p)
  | [], i, _ => .inl ⟨rfl, rfl⟩
  | p :: r, i, hi => by
    simp only [idxP, List.find?_cons, List.length_cons]
    by_cases h : p.1 = f
    · rw [if_pos h, decide_eq_true h]
      exact .inr ⟨Int.le_refl _, by omega, p, rfl, fun d => by simp⟩
    · rw [if_neg h, decide_eq_false h]
      rcases idxP_find f r (i + 1) (by omega) with ⟨h1, h2⟩ | ⟨h1, h2, q, h3, h4⟩
      · exact .inl ⟨h1, h2⟩
      · refine .inr ⟨by omega, by omega, q, h3, fun d => ?_⟩
        have := h4 d
        rw [show (idxP r f (i + 1) - i).toNat = (idxP r f (i + 1) - (i + 1)).toNat + 1 by omega, List.getD_cons_succ]
        exact this
theorem Apply19_eq (l : List Pair) (f : ByteArray) (h : l.length ≤ maxLen) : r19_Apply l f = some (applyP l f) := by
  unfold r19_Apply r19_Apply_s0 applyP
  dsimp only
  rw [find19_eq l h l.length (Nat.le_refl _), List.take_length, Option.bind_some]
  rcases idxP_find f l 0 (Int.le_refl _) with ⟨h1, h2⟩ | ⟨h1, h2, p, h3, h4⟩
  · rw [h1, h2]; rfl
  · rw [decide_eq_false (by omega), cond_false, within_int h1 (by omega), h3]
    have := h4 ((bs []), (bs []), ())
    rw [Int.sub_zero] at this
    rw [this]
def turnP (l : List Pair) : List Pair := l.map fun p => (p.2.1, p.1, ())
theorem turnP_len (l : List Pair) : (turnP l).length = l.length := by simp [turnP]
theorem Copy19_eq (l : List Pair) (h : l.length ≤ 1000000) : r19_Copy l = some l := by
  unfold r19_Copy r19_Copy_s0
  rw [decide_eq_true (by simp; omega), cond_true, List.nil_append]
end Groat
set_option linter.unusedVariables false
set_option linter.unusedSimpArgs false
namespace Groat
open Go Go.Ref
def isC (c b : Int) : Bool :=
  if c = 1 then decide (48 ≤ b ∧ b ≤ 57)
  else if c = 2 then decide (65 ≤ b ∧ b ≤ 90 ∨ 97 ≤ b ∧ b ≤ 122)
  else if c = 3 then decide (48 ≤ b ∧ b ≤ 57 ∨ 65 ≤ b ∧ b ≤ 90 ∨ 97 ≤ b ∧ b ≤ 122)
  else if c = 4 then decide (32 ≤ b ∧ b ≤ 126)
  else decide (c = 5 ∨ c = 6)
def setsV (c : Int) : Int := if c = 1 then 1 else if c = 2 then 2 else if c = 3 then 3 else if c = 4 then 7 else if c = 5 then 15 else if c = 6 then 15 else 0
theorem is_fin : ∀ c : Fin 7, ∀ b : Fin 256, r04_Is (c.1 : Int) (b.1 : Int) = some (isC (c.1 : Int) (b.1 : Int)) := by decide +kernel
theorem of_fin : ∀ c : Fin 7, ∀ b : Fin 256, (class_of (b.1 : Int)).map (fun r => decide (ibits .and .i64 (setsV (c.1 : Int)) r = 0)) = some (!isC (c.1 : Int) (b.1 : Int)) := by decide +kernel
theorem cls_cases (c : Int) : (∃ k : Fin 7, c = (k.1 : Int)) ∨ (c ≠ 1 ∧ c ≠ 2 ∧ c ≠ 3 ∧ c ≠ 4 ∧ c ≠ 5 ∧ c ≠ 6) := by
  by_cases h : 0 ≤ c ∧ c ≤ 6
  · exact .inl ⟨⟨c.toNat, by omega⟩, by simp; omega⟩
  · exact .inr ⟨by omega, by omega, by omega, by omega, by omega, by omega⟩
theorem byte_fin {b : Int} (h : isByte b) : ∃ k : Fin 256, b = (k.1 : Int) := by
  unfold isByte at h
  exact ⟨⟨b.toNat, by omega⟩, by simp; omega⟩
theorem Is04_eq (c : Int) {b : Int} (hb : isByte b) : r04_Is c b = some (isC c b) := by
  obtain ⟨b, rfl⟩ := byte_fin hb
  rcases cls_cases c with ⟨k, rfl⟩ | ⟨h1, h2, h3, h4, h5, h6⟩
  · exact is_fin k b
  · unfold r04_Is r04_Is_s0 isC
    simp only [h1, h2, h3, h4, h5, h6, decide_false, cond_false, if_false, or_self, Bool.cond_self]
theorem ofSets_eq (c : Int) {b : Int} (hb : isByte b) : ∃ r, class_of b = some r ∧ decide (ibits .and .i64 (setsV c) r = 0) = !isC c b := by
  obtain ⟨b, rfl⟩ := byte_fin hb
  rcases cls_cases c with ⟨k, rfl⟩ | ⟨h1, h2, h3, h4, h5, h6⟩
  · have := of_fin k b
    cases hc : class_of (b.1 : Int) with
    | none => rw [hc] at this; cases this
    | some r => rw [hc] at this; exact ⟨r, rfl, by simpa using this⟩
  · have := of_fin 0 b
    cases hc : class_of (b.1 : Int) with
    | none => rw [hc] at this; cases this
    | some r =>
      rw [hc] at this
      refine ⟨r, rfl, ?_⟩
      have e1 : setsV c = setsV ((0 : Fin 7).1 : Int) := by unfold setsV; simp [h1, h2, h3, h4, h5, h6]
      have e2 : isC c (b.1 : Int) = isC ((0 : Fin 7).1 : Int) (b.1 : Int) := by unfold isC; simp [h1, h2, h3, h4, h5, h6]
      rw [e1, e2]
      simpa using this
def firstC (c : Int) : List Int → Int → Int
  | [], _ => -1
  | b :: r, i => if isC c b = true then firstC c r (i + 1) else i
theorem firstC_none (c : Int) : ∀ (l : List Int) (i : Int), 0 ≤ i → (0 ≤ firstC c l i ↔ ¬ l.all (isC c) = true)
  | [], i, _ => by simp [firstC]
  | b :: r, i, hi => by
    simp only [firstC, List.all_cons]
    cases h : isC c b with
    | true => rw [if_pos rfl, firstC_none c r (i + 1) (by omega), Bool.true_and]
    | false => simp [hi]
theorem first_loop (c : Int) (s : ByteArray) (hs : s.size ≤ 9223372036854775807) : ∀ (n j k : Nat), j + n = s.size → n < k → class_First_l0 k s (setsV c) (j : Int) = some (exI (firstC c ((bl s).drop j) j))
  | n, j, 0, _, hk => by omega
  | 0, j, k + 1, hj, hk => by
    unfold class_First_l0 class_First_s1
    rw [decide_eq_false (by omega), List.drop_eq_nil_of_le (by rw [bl_length]; omega)]; rfl
  | n + 1, j, k + 1, hj, hk => by
    have hlt : j < s.size := by omega
    have hl : j < (bl s).length := by rw [bl_length]; exact hlt
    have hb : isByte ((bl s)[j]) := bl_byte (List.getElem_mem hl)
    have hg : (bl s).getD j 0 = (bl s)[j] := by rw [List.getD_eq_getElem?_getD, List.getElem?_eq_getElem hl]; rfl
    unfold class_First_l0 class_First_s1
    rw [decide_eq_true (by omega), cond_true, within_nat_lt hlt, Int.toNat_natCast, bl_byteAt, hg, List.drop_eq_getElem_cons hl]
    obtain ⟨r, h1, h2⟩ := ofSets_eq c hb
    rw [h1, Option.bind_some, h2]
    simp only [firstC]
    cases h : isC c (bl s)[j] with
    | true => rw [if_pos rfl, Bool.not_true, cond_false, i64_succ (by omega), first_loop c s hs n (j + 1) k (by omega) (by omega)]; rfl
    | false => rw [if_neg (by simp), Bool.not_false, cond_true, exI_nat]
theorem First_eq (c : Int) (s : ByteArray) (h : s.size ≤ maxLen) : class_First c s = some (firstC c (bl s) 0) := by
  rw [maxLen_eq] at h
  unfold class_First class_First_s0
  dsimp only
  rw [sets_eq, Option.bind_some]
  have := first_loop c s h s.size 0 FUEL (by omega) (by rw [fuel_eq]; omega)
  rw [show ((0 : Nat) : Int) = (0 : Int) from rfl, List.drop_zero] at this
  rw [show (if c = 1 then 1 else if c = 2 then 2 else if c = 3 then 3 else if c = 4 then 7 else if c = 5 then 15 else if c = 6 then 15 else 0 : Int) = setsV c from rfl, this, Option.bind_some]
  unfold exI
  by_cases h : firstC c (bl s) 0 = -1
  · rw [if_pos h, h]; rfl
  · rw [if_neg h]; rfl
theorem first04_loop (c : Int) (s : ByteArray) (hs : s.size ≤ 9223372036854775807) : ∀ (n j k : Nat), j + n = s.size → n < k → r04_First_l0 k c s (j : Int) = some (exI (firstC c ((bl s).drop j) j))
  | n, j, 0, _, hk => by omega
  | 0, j, k + 1, hj, hk => by
    unfold r04_First_l0 r04_First_s1
    rw [decide_eq_false (by omega), List.drop_eq_nil_of_le (by rw [bl_length]; omega)]; rfl
  | n + 1, j, k + 1, hj, hk => by
    have hlt : j < s.size := by omega
    have hl : j < (bl s).length := by rw [bl_length]; exact hlt
    have hb : isByte ((bl s)[j]) := bl_byte (List.getElem_mem hl)
    have hg : (bl s).getD j 0 = (bl s)[j] := by rw [List.getD_eq_getElem?_getD, List.getElem?_eq_getElem hl]; rfl
    unfold r04_First_l0 r04_First_s1
    rw [decide_eq_true (by omega), cond_true, within_nat_lt hlt, Int.toNat_natCast, bl_byteAt, hg, List.drop_eq_getElem_cons hl, Is04_eq c hb, Option.bind_some]
    simp only [firstC]
    cases h : isC c (bl s)[j] with
    | true => rw [if_pos rfl, Bool.not_true, cond_false, i64_succ (by omega), first04_loop c s hs n (j + 1) k (by omega) (by omega)]; rfl
    | false => rw [if_neg (by simp), Bool.not_false, cond_true, exI_nat]
theorem First04_eq (c : Int) (s : ByteArray) (h : s.size ≤ maxLen) : r04_First c s = some (firstC c (bl s) 0) := by
  rw [maxLen_eq] at h
  unfold r04_First r04_First_s0
  dsimp only
  have := first04_loop c s h s.size 0 FUEL (by omega) (by rw [fuel_eq]; omega)
  rw [show ((0 : Nat) : Int) = (0 : Int) from rfl, List.drop_zero] at this
  rw [this, Option.bind_some]
  unfold exI
  by_cases h : firstC c (bl s) 0 = -1
  · rw [if_pos h, h]; rfl
  · rw [if_neg h]; rfl
def widerC (a b : Int) : Bool := decide (1 ≤ a ∧ a ≤ 6 ∧ 1 ≤ b ∧ b ≤ 6) && decide (ibits .andNot .i64 (setsV b) (setsV a) = 0)
theorem Wider_eq (a b : Int) : class_Wider a b = some (widerC a b) := by
  unfold class_Wider class_Wider_s0 widerC
  rw [Known_eq, Option.bind_some]
  by_cases ha : 1 ≤ a ∧ a ≤ 6
  · rw [decide_eq_true ha, cond_true, Known_eq, Option.bind_some]
    by_cases hb : 1 ≤ b ∧ b ≤ 6
    · rw [decide_eq_true hb, cond_true, sets_eq, Option.bind_some, sets_eq, Option.bind_some, decide_eq_true (show 1 ≤ a ∧ a ≤ 6 ∧ 1 ≤ b ∧ b ≤ 6 from ⟨ha.1, ha.2, hb.1, hb.2⟩), Bool.true_and]
      rfl
    · rw [decide_eq_false hb, cond_false, decide_eq_false (fun h => hb h.2.2)]; rfl
  · rw [decide_eq_false ha, cond_false, decide_eq_false (fun h => ha ⟨h.1, h.2.1⟩)]; rfl
theorem wider_fin : ∀ a b : Fin 7, r04_Wider (a.1 : Int) (b.1 : Int) = some (widerC (a.1 : Int) (b.1 : Int)) := by decide +kernel
theorem in_fin {c : Int} (h : 1 ≤ c ∧ c ≤ 6) : ∃ k : Fin 7, c = (k.1 : Int) := ⟨⟨c.toNat, by omega⟩, by simp; omega⟩
theorem Wider04_eq (a b : Int) : r04_Wider a b = some (widerC a b) := by
  by_cases h : (1 ≤ a ∧ a ≤ 6) ∧ (1 ≤ b ∧ b ≤ 6)
  · obtain ⟨k, rfl⟩ := in_fin h.1
    obtain ⟨m, rfl⟩ := in_fin h.2
    exact wider_fin k m
  · unfold r04_Wider r04_Wider_s0 widerC
    rw [show decide (1 ≤ a ∧ a ≤ 6 ∧ 1 ≤ b ∧ b ≤ 6) = false from decide_eq_false (fun h' => h ⟨⟨h'.1, h'.2.1⟩, h'.2.2⟩), Bool.false_and]
    by_cases h1 : a < 1
    · rw [decide_eq_true h1]; rfl
    · by_cases h2 : (6 : Int) < a
      · rw [decide_eq_false h1, decide_eq_true h2]; rfl
      · by_cases h3 : b < 1
        · rw [decide_eq_false h1, decide_eq_false h2, decide_eq_true h3]; rfl
        · have h4 : (6 : Int) < b := by omega
          rw [decide_eq_false h1, decide_eq_false h2, decide_eq_false h3, decide_eq_true h4]; rfl
end Groat
set_option linter.unusedVariables false
set_option linter.unusedSimpArgs false
namespace Groat
open Go Go.Ref
theorem byteAt_byte (s : ByteArray) (i : Nat) : isByte (byteAt s i) := by
  rw [bl_byteAt]
  exact getD_byte (fun x hx => bl_byte hx) i
theorem first_fin : ∀ b : Fin 256, tag_first (b.1 : Int) = some (decide (r08_First (b.1 : Int) ≠ some 0)) := by decide +kernel
theorem first2_fin : ∀ b : Fin 256, r08_First (b.1 : Int) = some 0 ∨ (r08_First (b.1 : Int) = some 1 ∧ decide (ibits .and .i64 (b.1 : Int) 31 = 31) = false) ∨ (r08_First (b.1 : Int) = some 2 ∧ decide (ibits .and .i64 (b.1 : Int) 31 = 31) = true) := by decide +kernel
theorem and255 (x y : Nat) (hx : x < 256) (hy : y < 256) : ibits .and .i64 (((x : Int) * 256) + (y : Int)) 255 = (y : Int) := by
  have : ((x : Int) * 256 + (y : Int)) = ((x * 256 + y : Nat) : Int) := by omega
  rw [this, show (255 : Int) = ((255 : Nat) : Int) from rfl, and_i64 (by omega) (by omega)]
  congr 1
  rw [show (255 : Nat) = 2 ^ 8 - 1 from rfl, Nat.and_two_pow_sub_one_eq_mod]
  omega
theorem shr8 (x y : Nat) (hx : x < 256) (hy : y < 256) : Int.fdiv ((x : Int) * 256 + (y : Int)) (2 ^ min ((8 : Int)).toNat 64) = (x : Int) := by
  have : ((x : Int) * 256 + (y : Int)) = ((x * 256 + y : Nat) : Int) := by omega
  rw [this, show (8 : Int) = ((8 : Nat) : Int) from rfl, fdiv_nat _ 8 (by omega)]
  congr 1
  omega
theorem right_two (x : Fin 256) (hx : r08_First (x.1 : Int) = some 2) (y : Fin 256) : tag_Right ((x.1 : Int) * 256 + (y.1 : Int)) = some (decide (1 ≤ (y.1 : Int) ∧ (y.1 : Int) ≤ 127)) := by
  have hx0 : x.1 ≠ 0 := fun e => by
    have : x = 0 := Fin.ext e
    subst this
    revert hx
    decide +kernel
  have h31 : decide (ibits .and .i64 (x.1 : Int) 31 = 31) = true := by
    rcases first2_fin x with h | ⟨h, _⟩ | ⟨_, h⟩
    · rw [h] at hx; cases hx
    · rw [h] at hx; cases hx
    · exact h
  have hf : tag_first (x.1 : Int) = some true := by rw [first_fin x, hx]; rfl
  unfold tag_Right tag_Right_s0
  rw [shr8 x.1 y.1 x.2 y.2, and255 x.1 y.1 x.2 y.2, decide_eq_false (by have := x.2; have := y.2; omega), cond_false, decide_eq_true (by have := x.2; have := y.2; omega), cond_true, hf, Option.bind_some, cond_true, h31, cond_true]
  by_cases h1 : (1 : Int) ≤ (y.1 : Int)
  · rw [decide_eq_true h1, cond_true]
    congr 1
    exact decide_eq_decide.2 ⟨fun h => ⟨h1, h⟩, fun h => h.2⟩
  · rw [decide_eq_false h1, cond_false]
    congr 1
    exact (decide_eq_false fun h => h1 h.1).symm
theorem tagGet_eq (s : ByteArray) (hs : s.size ≤ 9223372036854775000) (a : Int) : tag_Get s a = r08_Get s a := by
  unfold tag_Get tag_Get_s0 r08_Get r08_Get_s0
  by_cases h1 : a < 0
  · rw [decide_eq_true h1]; rfl
  rw [decide_eq_false h1, cond_false, cond_false]
  by_cases h2 : (s.size : Int) < a
  · rw [decide_eq_true h2]; rfl
  rw [decide_eq_false h2, cond_false, cond_false]
  by_cases h3 : a = (s.size : Int)
  · rw [decide_eq_true h3]; rfl
  have wa : ∀ {R : Type} (x : Option R), within a s.size x = x := fun x => within_int (by omega) (by omega)
  rw [decide_eq_false h3, cond_false, cond_false]
  simp only [wa]
  obtain ⟨x, hx⟩ := byte_fin (byteAt_byte s a.toNat)
  obtain ⟨y, hy⟩ := byte_fin (byteAt_byte s (IntKind.i64.wrap (a + 1)).toNat)
  have hx2 := x.2
  have hy2 := y.2
  have ob := or_bytes (byteAt_byte s a.toNat) (byteAt_byte s (IntKind.i64.wrap (a + 1)).toNat)
  rw [hx, hy] at ob
  have w1 : IntKind.i64.wrap (a + 1) = a + 1 := i64_id (by omega) (by omega)
  have w2 : IntKind.i64.wrap (x.1 : Int) = (x.1 : Int) := i64_id (by omega) (by omega)
  have w3 : IntKind.i64.wrap (y.1 : Int) = (y.1 : Int) := i64_id (by omega) (by omega)
  have w4 : IntKind.i64.wrap ((s.size : Int) - a) = (s.size : Int) - a := i64_id (by omega) (by omega)
  rw [hx, hy, w2, first_fin x, Option.bind_some]
  rw [w2] at ob
  rcases first2_fin x with h | ⟨h, h31⟩ | ⟨h, h31⟩
  · rw [h]; rfl
  · rw [h, Option.bind_some, h31]; rfl
  · rw [h, Option.bind_some, h31, ob, right_two x h y, Option.bind_some, w1, w4, w3]
    by_cases h4 : a + 1 = (s.size : Int)
    · rw [decide_eq_true h4, decide_eq_true (by omega : (s.size : Int) - a < 2)]; rfl
    · have w5 : IntKind.i64.wrap (256 * (x.1 : Int)) = 256 * (x.1 : Int) := i64_id (by omega) (by omega)
      have w6 : IntKind.i64.wrap (256 * (x.1 : Int) + (y.1 : Int)) = (x.1 : Int) * 256 + (y.1 : Int) := by rw [i64_id (by omega) (by omega)]; omega
      rw [decide_eq_false h4, decide_eq_false (by omega : ¬ (s.size : Int) - a < 2), w5, w6]
      have wb : ∀ {R : Type} (x : Option R), within (a + 1) s.size x = x := fun x => within_int (by omega) (by omega)
      simp only [wb]
      by_cases h5 : (y.1 : Int) = 0
      · rw [decide_eq_true h5, decide_eq_false (by omega : ¬ (1 ≤ (y.1 : Int) ∧ (y.1 : Int) ≤ 127))]; rfl
      · by_cases h6 : (127 : Int) < (y.1 : Int)
        · rw [decide_eq_false h5, decide_eq_true h6, decide_eq_false (by omega : ¬ (1 ≤ (y.1 : Int) ∧ (y.1 : Int) ≤ 127))]; rfl
        · rw [decide_eq_false h5, decide_eq_false h6, decide_eq_true (by omega : 1 ≤ (y.1 : Int) ∧ (y.1 : Int) ≤ 127)]; rfl
end Groat
set_option linter.unusedVariables false
set_option linter.unusedSimpArgs false
namespace Groat
open Go Go.Ref
theorem Size_eq (n : Int) : ber_Size n = some (if n < 0 ∨ 65535 < n then 0 else if 255 < n then 3 else if 127 < n then 2 else 1) := by
  unfold ber_Size ber_Size_s0
  by_cases h1 : n < 0
  · rw [decide_eq_true h1, if_pos (.inl h1)]; rfl
  by_cases h2 : (65535 : Int) < n
  · rw [decide_eq_false h1, decide_eq_true h2, if_pos (.inr h2)]; rfl
  rw [decide_eq_false h1, decide_eq_false h2, if_neg (by omega)]
  by_cases h3 : (255 : Int) < n
  · rw [decide_eq_true h3, if_pos h3]; rfl
  by_cases h4 : (127 : Int) < n
  · rw [decide_eq_false h3, decide_eq_true h4, if_neg h3, if_pos h4]; rfl
  · rw [decide_eq_false h3, decide_eq_false h4, if_neg h3, if_neg h4]; rfl
theorem fuel3 : ∃ k, FUEL = k + 1 + 1 + 1 := ⟨FUEL - 3, by rw [fuel_eq]⟩
theorem or_zero {y : Int} (hy : isByte y) : ibits .or .i64 (IntKind.i64.wrap (0 * 2 ^ min (8 : Int).toNat 64)) (IntKind.i64.wrap y) = y := by
  obtain ⟨k, rfl⟩ := byte_fin hy
  clear hy
  revert k
  decide +kernel
theorem berGet_eq (s : ByteArray) (hs : s.size ≤ 9223372036854775000) (a : Int) : ber_Get s a = r09_Get s a := by
  unfold ber_Get ber_Get_s0 r09_Get r09_Get_s0
  by_cases h1 : a < 0
  · rw [decide_eq_true h1]; rfl
  rw [decide_eq_false h1, cond_false, cond_false]
  by_cases h2 : (s.size : Int) < a
  · rw [decide_eq_true h2]; rfl
  rw [decide_eq_false h2, cond_false, cond_false]
  by_cases h3 : a = (s.size : Int)
  · rw [decide_eq_true h3]; rfl
  have wa : ∀ {R : Type} (x : Option R), within a s.size x = x := fun x => within_int (by omega) (by omega)
  rw [decide_eq_false h3, cond_false, cond_false]
  simp only [wa]
  obtain ⟨x, hx⟩ := byte_fin (byteAt_byte s a.toNat)
  have hx2 := x.2
  have w1 : IntKind.i64.wrap (a + 1) = a + 1 := i64_id (by omega) (by omega)
  have w2 : IntKind.i64.wrap (x.1 : Int) = (x.1 : Int) := i64_id (by omega) (by omega)
  have w4 : IntKind.i64.wrap ((s.size : Int) - a) = (s.size : Int) - a := i64_id (by omega) (by omega)
  have w5 : IntKind.i64.wrap ((s.size : Int) - (a + 1)) = (s.size : Int) - (a + 1) := i64_id (by omega) (by omega)
  have w6 : IntKind.i64.wrap ((x.1 : Int) - 128) = (x.1 : Int) - 128 := i64_id (by omega) (by omega)
  have w7 : IntKind.i64.wrap ((x.1 : Int) - 127) = (x.1 : Int) - 127 := i64_id (by omega) (by omega)
  obtain ⟨k, hk⟩ := fuel3
  simp only [hx, w2, w1, w4, w5, w6, w7, hk]
  by_cases h4 : (127 : Int) < (x.1 : Int)
  · rw [decide_eq_true h4, cond_true, decide_eq_false (by omega : ¬ (x.1 : Int) < 128), cond_false]
    by_cases h5 : (x.1 : Int) = 129
    · have wn : IntKind.i64.wrap (0 + 1) = 1 := rfl
      simp only [h5]
      by_cases h6 : (s.size : Int) - a < 2
      · have e1 : ((s.size : Int) - (a + 1) < 129 - 128) := by omega
        have e2 : ((s.size : Int) - a < 129 - 127) := by omega
        rw [decide_eq_true e1, decide_eq_true e2]; rfl
      · have e1 : ¬ ((s.size : Int) - (a + 1) < 129 - 128) := by omega
        have e2 : ¬ ((s.size : Int) - a < 129 - 127) := by omega
        have wb : ∀ {R : Type} (x : Option R), within (a + 1) s.size x = x := fun x => within_int (by omega) (by omega)
        have wc : ∀ {R : Type} (x : Option R), within (IntKind.i64.wrap (a + 1 + 0)) s.size x = x := fun x => by rw [Int.add_zero, w1]; exact wb x
        obtain ⟨y, hy⟩ := byte_fin (byteAt_byte s (a + 1).toNat)
        have hy2 := y.2
        have w3 : IntKind.i64.wrap (y.1 : Int) = (y.1 : Int) := i64_id (by omega) (by omega)
        have oz := or_zero (y := (y.1 : Int)) ⟨by omega, by omega⟩
        rw [w3] at oz
        rw [decide_eq_false e1, decide_eq_false e2]
        have l1 : ber_Get_l0 (k + 1 + 1 + 1) s (a + 1) 0 (129 - 128) (129 - 128) 0 = some (a + 1, (y.1 : Int), 129 - 128) := by
          simp only [ber_Get_l0, ber_Get_s1]
          rw [show decide ((0 : Int) < 129 - 128) = true from rfl, cond_true, wc, wn, show decide ((1 : Int) < 129 - 128) = false from rfl, cond_false, Int.add_zero, w1, hy, w3, oz]
        simp only [wb, hy, w3]
        show (ber_Get_l0 (k + 1 + 1 + 1) s (a + 1) 0 (129 - 128) (129 - 128) 0).bind _ = _
        rw [l1, Option.bind_some]
        unfold ber_Get_s2
        dsimp only
        rw [Size_eq, Option.bind_some]
        by_cases h7 : (y.1 : Int) < 128
        · rw [if_neg (by omega), if_neg (by omega), if_neg (by omega), decide_eq_true h7]; rfl
        · rw [if_neg (by omega), if_neg (by omega), if_pos (by omega), decide_eq_false h7]
          have : IntKind.i64.wrap (a + 1 + (129 - 128)) = IntKind.i64.wrap (a + 2) := by congr 1; omega
          simp only [this]
          rfl
    · by_cases h6 : (x.1 : Int) = 130
      · have wn : IntKind.i64.wrap (0 + 1) = 1 := rfl
        have wm : IntKind.i64.wrap (1 + 1) = 2 := rfl
        simp only [h6]
        by_cases h7 : (s.size : Int) - a < 3
        · have e1 : ((s.size : Int) - (a + 1) < 130 - 128) := by omega
          have e2 : ((s.size : Int) - a < 130 - 127) := by omega
          rw [decide_eq_true e1, decide_eq_true e2]; rfl
        · have e1 : ¬ ((s.size : Int) - (a + 1) < 130 - 128) := by omega
          have e2 : ¬ ((s.size : Int) - a < 130 - 127) := by omega
          have wb : ∀ {R : Type} (x : Option R), within (a + 1) s.size x = x := fun x => within_int (by omega) (by omega)
          have w8 : IntKind.i64.wrap (a + 2) = a + 2 := i64_id (by omega) (by omega)
          have w9 : IntKind.i64.wrap (a + 1 + 1) = a + 2 := by rw [i64_id (by omega) (by omega)]; omega
          have wd : ∀ {R : Type} (x : Option R), within (a + 2) s.size x = x := fun x => within_int (by omega) (by omega)
          obtain ⟨y, hy⟩ := byte_fin (byteAt_byte s (a + 1).toNat)
          obtain ⟨z, hz⟩ := byte_fin (byteAt_byte s (a + 2).toNat)
          have hy2 := y.2
          have hz2 := z.2
          have w3 : IntKind.i64.wrap (y.1 : Int) = (y.1 : Int) := i64_id (by omega) (by omega)
          have w3' : IntKind.i64.wrap (z.1 : Int) = (z.1 : Int) := i64_id (by omega) (by omega)
          have oz := or_zero (y := (y.1 : Int)) ⟨by omega, by omega⟩
          have ob := or_bytes (x := (y.1 : Int)) (y := (z.1 : Int)) ⟨by omega, by omega⟩ ⟨by omega, by omega⟩
          rw [w3] at oz
          rw [w3, w3'] at ob
          rw [decide_eq_false e1, decide_eq_false e2]
          have l1 : ber_Get_l0 (k + 1 + 1 + 1) s (a + 1) 0 (130 - 128) (130 - 128) 0 = some (a + 1, (y.1 : Int) * 256 + (z.1 : Int), 130 - 128) := by
            simp only [ber_Get_l0, ber_Get_s1]
            rw [show decide ((0 : Int) < 130 - 128) = true from rfl, cond_true, wn, wm, show decide ((1 : Int) < 130 - 128) = true from rfl, cond_true, show decide ((2 : Int) < 130 - 128) = false from rfl, cond_false, Int.add_zero, w1, wb, w9, wd, hy, hz, w3, w3', oz, ob]
          have w5' : IntKind.i64.wrap (256 * (y.1 : Int)) = 256 * (y.1 : Int) := i64_id (by omega) (by omega)
          have w6' : IntKind.i64.wrap (256 * (y.1 : Int) + (z.1 : Int)) = (y.1 : Int) * 256 + (z.1 : Int) := by rw [i64_id (by omega) (by omega)]; omega
          simp only [wb, w8, wd, hy, hz, w3, w3', w5', w6']
          show (ber_Get_l0 (k + 1 + 1 + 1) s (a + 1) 0 (130 - 128) (130 - 128) 0).bind _ = _
          rw [l1, Option.bind_some]
          unfold ber_Get_s2
          dsimp only
          rw [Size_eq, Option.bind_some]
          by_cases h8 : (y.1 : Int) = 0
          · rw [if_neg (by omega), if_neg (by omega), decide_eq_true h8]
            by_cases h9 : (127 : Int) < (y.1 : Int) * 256 + (z.1 : Int)
            · rw [if_pos h9]; rfl
            · rw [if_neg h9]; rfl
          · rw [if_neg (by omega), if_pos (by omega), decide_eq_false h8]
            have : IntKind.i64.wrap (a + 1 + (130 - 128)) = IntKind.i64.wrap (a + 3) := by congr 1; omega
            simp only [this]
            rfl
      · rw [decide_eq_false h5, decide_eq_false h6]
        by_cases h7 : (x.1 : Int) = 128
        · rw [decide_eq_true h7]; rfl
        · rw [decide_eq_false h7, decide_eq_true (by omega : (130 : Int) < (x.1 : Int))]; rfl
  · rw [decide_eq_false h4, cond_false, decide_eq_true (by omega : (x.1 : Int) < 128), cond_true, decide_eq_false (by omega : ¬ (s.size : Int) - (a + 1) < 0), cond_false]
    have l1 : ber_Get_l0 (k + 1 + 1 + 1) s (a + 1) (x.1 : Int) 0 0 0 = some (a + 1, (x.1 : Int), 0) := by
      simp only [ber_Get_l0, ber_Get_s1]
      rw [show decide ((0 : Int) < 0) = false from rfl, cond_false]
    show (ber_Get_l0 (k + 1 + 1 + 1) s (a + 1) (x.1 : Int) 0 0 0).bind _ = _
    rw [l1, Option.bind_some]
    unfold ber_Get_s2
    dsimp only
    rw [Size_eq, Option.bind_some, if_neg (by omega), if_neg (by omega), if_neg (by omega), Int.add_zero, w1]
    rfl
end Groat
set_option linter.unusedVariables false
set_option linter.unusedSimpArgs false
namespace Groat
open Go Go.Ref
abbrev Val := Int × ByteArray × Unit
theorem has10_loop (l : List Val) (hl : l.length ≤ 9223372036854775807) (t : Int) : ∀ (m j k : Nat), j + m = l.length → m < k → r10_has_l0 k l (l.length : Int) t (j : Int) = some (if t ∈ (l.drop j).map (fun v => v.1) then .inl true else .inr ())
  | m, j, 0, _, hk => by omega
  | 0, j, k + 1, hj, hk => by
    unfold r10_has_l0 r10_has_s1
    rw [decide_eq_false (by omega), List.drop_eq_nil_of_le (by omega)]; rfl
  | m + 1, j, k + 1, hj, hk => by
    have hlt : j < l.length := by omega
    have hg : ∀ d, l.getD j d = l[j] := fun d => by rw [List.getD_eq_getElem?_getD, List.getElem?_eq_getElem hlt]; rfl
    unfold r10_has_l0 r10_has_s1
    rw [decide_eq_true (by omega), cond_true, within_nat_lt hlt, Int.toNat_natCast, hg, List.drop_eq_getElem_cons hlt, List.map_cons]
    by_cases h : l[j].1 = t
    · rw [decide_eq_true h, if_pos (by rw [h]; exact List.mem_cons_self)]; rfl
    · rw [decide_eq_false h, cond_false, i64_succ (by omega)]
      dsimp only
      rw [has10_loop l hl t m (j + 1) k (by omega) (by omega)]
      by_cases h2 : t ∈ (l.drop (j + 1)).map (fun v => v.1)
      · rw [if_pos h2, if_pos (List.mem_cons_of_mem _ h2)]
      · rw [if_neg h2, if_neg (fun h3 => (List.mem_cons.1 h3).elim (fun e => h e.symm) h2)]
theorem has10_eq (l : List Val) (hl : l.length ≤ maxLen) (t : Int) : r10_has l (l.length : Int) t = some (decide (t ∈ l.map fun v => v.1)) := by
  rw [maxLen_eq] at hl
  unfold r10_has r10_has_s0
  dsimp only
  have := has10_loop l hl t l.length 0 FUEL (by omega) (by rw [fuel_eq]; omega)
  rw [show ((0 : Nat) : Int) = (0 : Int) from rfl, List.drop_zero] at this
  rw [this, Option.bind_some]
  by_cases h : t ∈ l.map fun v => v.1
  · rw [if_pos h, decide_eq_true h]; rfl
  · rw [if_neg h, decide_eq_false h]; rfl
theorem tlv_loop (b : ByteArray) (hb : b.size ≤ 9223372036854775000) : ∀ (k : Nat) (t5 : List Val) (t7 : Int), t5.length ≤ 5864062014805 → tlv_Get_l0 k b t5 t7 (seenM (t5.map fun v => v.1)) = r10_Get_l0 k b t5 t7
  | 0, _, _, _ => rfl
  | k + 1, t5, t7, hl => by
    unfold tlv_Get_l0 tlv_Get_s1 r10_Get_l0 r10_Get_s1
    rw [tagGet_eq b hb]
    generalize decide (t7 < (b.size : Int)) = c0
    cases c0 with
    | false => rfl
    | true =>
      simp only [cond_true]
      cases r08_Get b t7 with
      | none => rfl
      | some r1 =>
        simp only [Option.bind_some]
        generalize (!decide (r1.2.2 = 0)) = c1
        cases c1 with
        | true => rfl
        | false =>
          simp only [cond_false]
          rw [berGet_eq b hb]
          cases r09_Get b r1.2.1 with
          | none => rfl
          | some r2 =>
            simp only [Option.bind_some]
            generalize (!decide (r2.2.2 = 0)) = c2
            cases c2 with
            | true => rfl
            | false =>
              simp only [cond_false]
              generalize decide (IntKind.i64.wrap ((b.size : Int) - r2.2.1) < r2.1) = c3
              cases c3 with
              | true => rfl
              | false =>
                simp only [cond_false]
                rw [has10_eq t5 (by rw [maxLen_eq]; omega), Option.bind_some]
                have e1 := mget_seen (eqK (.int .i64)) (fun _ _ => rfl) r1.1 (t5.map fun v => v.1)
                have e2 := mhas_seen (eqK (.int .i64)) (fun _ _ => rfl) r1.1 (t5.map fun v => v.1)
                by_cases hm : r1.1 ∈ t5.map fun v => v.1
                · rw [e1.2 hm, decide_eq_true hm]; rfl
                · rw [not_true' e1 hm, not_true' e2 hm, decide_eq_false hm]
                  simp only [cond_false]
                  rw [seenM_append]
                  have hs : (t5.map fun v => v.1) ++ [r1.1] = (t5 ++ [((r1.1, (b.extract r2.2.1.toNat (IntKind.i64.wrap (r2.2.1 + r2.1)).toNat), ()) : Val)]).map fun v => v.1 := by simp
                  rw [hs]
                  by_cases hn : (t5.length + 1) * 24 ≤ 140737488355328
                  · rw [tlv_loop b hb k _ _ (by simp; omega)]
                  · have : decide ((t5.length + (List.length ([(r1.1, (b.extract r2.2.1.toNat (IntKind.i64.wrap (r2.2.1 + r2.1)).toNat), ())] : List Val))) * 24 ≤ 140737488355328) = false := decide_eq_false (by simp; omega)
                    simp only [this, cond_false]
theorem tlvGet_eq (b : ByteArray) (hb : b.size ≤ 9223372036854775000) : tlv_Get b = r10_Get b := by
  unfold tlv_Get tlv_Get_s0 r10_Get r10_Get_s0
  dsimp only
  have := tlv_loop b hb FUEL [] 0 (by simp)
  rw [show seenM (([] : List Val).map fun v => v.1) = [] from rfl] at this
  rw [this]
  rfl
theorem Value_eq (s : Spec) (x : ByteArray) (hx : x.size ≤ 9223372036854775000) : spec_Value s x = r11_Value s x := by
  unfold spec_Value spec_Value_s0 r11_Value r11_Value_s0
  rw [specCheck_eq, specCheck11_eq, First_eq _ _ (by rw [maxLen_eq]; omega), First04_eq _ _ (by rw [maxLen_eq]; omega), tlvGet_eq x hx]
theorem specWider_eq (a b : Spec) : spec_Wider a b = r11_Wider a b := by
  unfold spec_Wider spec_Wider_s0 r11_Wider r11_Wider_s0 spec_classes spec_classes_s0
  rw [specCheck_eq, specCheck11_eq, specCheck_eq, specCheck11_eq, Wider_eq, Wider04_eq]
  simp only [Option.bind_some]
  by_cases h1 : specC a = 0
  · by_cases h2 : specC b = 0
    · simp only [h1, h2, decide_true, cond_true, Bool.not_true, cond_false]
      by_cases h3 : a.2.2.2.1 ≤ b.2.2.2.1
      · rw [decide_eq_true h3, decide_eq_false (by omega : ¬ b.2.2.2.1 < a.2.2.2.1)]
        by_cases h4 : b.2.2.2.2.1 ≤ a.2.2.2.2.1
        · rw [decide_eq_true h4, decide_eq_false (by omega : ¬ a.2.2.2.2.1 < b.2.2.2.2.1)]
          simp only [cond_true, cond_false]
          by_cases h5 : a.2.1 = 5
          · simp [h5]
          · by_cases h6 : a.2.1 = 6
            · simp [h6]
            · by_cases h7 : b.2.1 = 6
              · simp [h5, h6, h7]
              · simp [h5, h6, h7]
        · rw [decide_eq_false h4, decide_eq_true (by omega : a.2.2.2.2.1 < b.2.2.2.2.1)]; rfl
      · rw [decide_eq_false h3, decide_eq_true (by omega : b.2.2.2.1 < a.2.2.2.1)]; rfl
    · simp [h1, h2]
  · simp [h1]
end Groat
set_option linter.unusedVariables false
set_option linter.unusedSimpArgs false
namespace Groat
open Go Go.Ref
theorem tag_total (s : ByteArray) (hs : s.size ≤ 9223372036854775000) (a : Int) (h0 : 0 ≤ a) (h1 : a < s.size) : ∃ r, r08_Get s a = some r ∧ (r.2.2 = 0 → a < r.2.1 ∧ r.2.1 ≤ s.size) := by
  unfold r08_Get r08_Get_s0
  have wa : ∀ {R : Type} (x : Option R), within a s.size x = x := fun x => within_int (by omega) (by omega)
  rw [decide_eq_false (by omega : ¬ a < 0), decide_eq_false (by omega : ¬ (s.size : Int) < a), decide_eq_false (by omega : ¬ a = (s.size : Int))]
  simp only [cond_false, wa]
  obtain ⟨x, hx⟩ := byte_fin (byteAt_byte s a.toNat)
  have w1 : IntKind.i64.wrap (a + 1) = a + 1 := i64_id (by omega) (by omega)
  have w4 : IntKind.i64.wrap ((s.size : Int) - a) = (s.size : Int) - a := i64_id (by omega) (by omega)
  rw [hx, w1, w4]
  rcases first2_fin x with h | ⟨h, h31⟩ | ⟨h, h31⟩
  · rw [h]; exact ⟨_, rfl, fun h => by cases h⟩
  · rw [h]
    exact ⟨_, rfl, fun _ => ⟨by show a < a + 1; omega, by show a + 1 ≤ _; omega⟩⟩
  · rw [h, Option.bind_some]
    simp only [show decide ((2 : Int) = 0) = false from rfl, show decide ((2 : Int) = 1) = false from rfl, cond_false]
    by_cases h4 : (s.size : Int) - a < 2
    · rw [decide_eq_true h4]; exact ⟨_, rfl, fun h => by cases h⟩
    · have wb : ∀ {R : Type} (x : Option R), within (a + 1) s.size x = x := fun x => within_int (by omega) (by omega)
      have w2 : IntKind.i64.wrap (a + 2) = a + 2 := i64_id (by omega) (by omega)
      rw [decide_eq_false h4]
      simp only [cond_false, wb]
      generalize decide (byteAt s (a + 1).toNat = 0) = c1
      generalize decide ((127 : Int) < byteAt s (a + 1).toNat) = c2
      cases c1
      · cases c2
        · exact ⟨_, rfl, fun _ => ⟨by show a < IntKind.i64.wrap (a + 2); rw [w2]; omega, by show IntKind.i64.wrap (a + 2) ≤ _; rw [w2]; omega⟩⟩
        · exact ⟨_, rfl, fun h => by cases h⟩
      · exact ⟨_, rfl, fun h => by cases h⟩
theorem ber_total (s : ByteArray) (hs : s.size ≤ 9223372036854775000) (a : Int) (h0 : 0 ≤ a) (h1 : a ≤ s.size) : ∃ r, r09_Get s a = some r ∧ (r.2.2 = 0 → a < r.2.1 ∧ r.2.1 ≤ s.size ∧ 0 ≤ r.1 ∧ r.1 ≤ 65535) := by
  unfold r09_Get r09_Get_s0
  rw [decide_eq_false (by omega : ¬ a < 0), decide_eq_false (by omega : ¬ (s.size : Int) < a)]
  simp only [cond_false]
  by_cases he : a = (s.size : Int)
  · rw [decide_eq_true he]; exact ⟨_, rfl, fun h => by cases h⟩
  have wa : ∀ {R : Type} (x : Option R), within a s.size x = x := fun x => within_int (by omega) (by omega)
  rw [decide_eq_false he]
  simp only [cond_false, wa]
  obtain ⟨x, hx⟩ := byte_fin (byteAt_byte s a.toNat)
  have hx2 := x.2
  have w1 : IntKind.i64.wrap (a + 1) = a + 1 := i64_id (by omega) (by omega)
  have w2 : IntKind.i64.wrap (x.1 : Int) = (x.1 : Int) := i64_id (by omega) (by omega)
  have w4 : IntKind.i64.wrap ((s.size : Int) - a) = (s.size : Int) - a := i64_id (by omega) (by omega)
  have w7 : IntKind.i64.wrap ((x.1 : Int) - 127) = (x.1 : Int) - 127 := i64_id (by omega) (by omega)
  simp only [hx, w2, w1, w4, w7]
  by_cases h4 : (x.1 : Int) < 128
  · rw [decide_eq_true h4]
    exact ⟨_, rfl, fun _ => ⟨by show a < a + 1; omega, by show a + 1 ≤ _; omega, by show (0 : Int) ≤ (x.1 : Int); omega, by show (x.1 : Int) ≤ 65535; omega⟩⟩
  rw [decide_eq_false h4]
  have h08 : ∀ i, isByte (byteAt s i) := byteAt_byte s
  by_cases h5 : (x.1 : Int) = 129
  · have wb : (s.size : Int) - a < (x.1 : Int) - 127 ∨ ∀ {R : Type} (x : Option R), within (a + 1) s.size x = x := by
      by_cases h : (s.size : Int) - a < (x.1 : Int) - 127
      · exact .inl h
      · exact .inr fun x => within_int (by omega) (by omega)
    rw [decide_eq_true h5]
    simp only [Bool.not_true, cond_false, cond_true]
    by_cases h6 : (s.size : Int) - a < (x.1 : Int) - 127
    · rw [decide_eq_true h6]; exact ⟨_, rfl, fun h => by cases h⟩
    · have wb : ∀ {R : Type} (x : Option R), within (a + 1) s.size x = x := fun x => within_int (by omega) (by omega)
      have w8 : IntKind.i64.wrap (a + 2) = a + 2 := i64_id (by omega) (by omega)
      obtain ⟨y, hy⟩ := byte_fin (h08 (a + 1).toNat)
      have hy2 := y.2
      have w3 : IntKind.i64.wrap (y.1 : Int) = (y.1 : Int) := i64_id (by omega) (by omega)
      rw [decide_eq_false h6]
      simp only [cond_false, wb, hy, w3, w8]
      generalize decide ((y.1 : Int) < 128) = c
      cases c
      · exact ⟨_, rfl, fun _ => ⟨by show a < a + 2; omega, by show a + 2 ≤ _; omega, by show (0 : Int) ≤ (y.1 : Int); omega, by show (y.1 : Int) ≤ 65535; omega⟩⟩
      · exact ⟨_, rfl, fun h => by cases h⟩
  · rw [decide_eq_false h5]
    simp only [Bool.not_false, cond_false, cond_true]
    by_cases h9 : (x.1 : Int) = 130
    · rw [decide_eq_true h9]
      simp only [Bool.not_true, cond_false]
      by_cases h6 : (s.size : Int) - a < (x.1 : Int) - 127
      · rw [decide_eq_true h6]; exact ⟨_, rfl, fun h => by cases h⟩
      · have wb : ∀ {R : Type} (x : Option R), within (a + 1) s.size x = x := fun x => within_int (by omega) (by omega)
        have w8 : IntKind.i64.wrap (a + 2) = a + 2 := i64_id (by omega) (by omega)
        have w9 : IntKind.i64.wrap (a + 3) = a + 3 := i64_id (by omega) (by omega)
        have wd : ∀ {R : Type} (x : Option R), within (a + 2) s.size x = x := fun x => within_int (by omega) (by omega)
        obtain ⟨y, hy⟩ := byte_fin (h08 (a + 1).toNat)
        obtain ⟨z, hz⟩ := byte_fin (h08 (a + 2).toNat)
        have hy2 := y.2
        have hz2 := z.2
        have w3 : IntKind.i64.wrap (y.1 : Int) = (y.1 : Int) := i64_id (by omega) (by omega)
        have w3' : IntKind.i64.wrap (z.1 : Int) = (z.1 : Int) := i64_id (by omega) (by omega)
        have w5' : IntKind.i64.wrap (256 * (y.1 : Int)) = 256 * (y.1 : Int) := i64_id (by omega) (by omega)
        have w6' : IntKind.i64.wrap (256 * (y.1 : Int) + (z.1 : Int)) = 256 * (y.1 : Int) + (z.1 : Int) := i64_id (by omega) (by omega)
        rw [decide_eq_false h6]
        simp only [cond_false, wb, w8, wd, hy, hz, w3, w3', w5', w6', w9]
        generalize decide ((y.1 : Int) = 0) = c
        cases c
        · exact ⟨_, rfl, fun _ => ⟨by show a < a + 3; omega, by show a + 3 ≤ _; omega, by show (0 : Int) ≤ 256 * (y.1 : Int) + (z.1 : Int); omega, by show 256 * (y.1 : Int) + (z.1 : Int) ≤ 65535; omega⟩⟩
        · exact ⟨_, rfl, fun h => by cases h⟩
    · rw [decide_eq_false h9]; exact ⟨_, rfl, fun h => by cases h⟩
theorem tlv10_total_loop (b : ByteArray) (hb : b.size ≤ 1099511627776) : ∀ (n : Nat) (k : Nat) (t5 : List Val) (a : Int), 0 ≤ a → a ≤ b.size → (b.size : Int) - a ≤ n → n < k → t5.length + n ≤ 2199023255552 → ∃ r, r10_Get_l0 k b t5 a = some r
  | n, 0, _, _, _, _, _, h, _ => by omega
  | n, k + 1, t5, a, h0, h1, h2, h3, h4 => by
    unfold r10_Get_l0 r10_Get_s1
    by_cases hlt : a < (b.size : Int)
    · obtain ⟨r1, e1, p1⟩ := tag_total b (by omega) a h0 hlt
      rw [decide_eq_true hlt, e1, Option.bind_some, cond_true]
      by_cases z1 : r1.2.2 = 0
      · obtain ⟨q1, q2⟩ := p1 z1
        obtain ⟨r2, e2, p2⟩ := ber_total b (by omega) r1.2.1 (by omega) q2
        simp only [z1, decide_true, Bool.not_true, cond_false]
        rw [e2, Option.bind_some]
        by_cases z2 : r2.2.2 = 0
        · obtain ⟨u1, u2, u3, u4⟩ := p2 z2
          simp only [z2, decide_true, Bool.not_true, cond_false]
          have w1 : IntKind.i64.wrap ((b.size : Int) - r2.2.1) = (b.size : Int) - r2.2.1 := i64_id (by omega) (by omega)
          have w2 : IntKind.i64.wrap (r2.2.1 + r2.1) = r2.2.1 + r2.1 := i64_id (by omega) (by omega)
          rw [w1, w2]
          by_cases z3 : (b.size : Int) - r2.2.1 < r2.1
          · rw [decide_eq_true z3]; exact ⟨_, rfl⟩
          · rw [decide_eq_false z3, cond_false, has10_eq t5 (by rw [maxLen_eq]; omega), Option.bind_some]
            generalize decide (r1.1 ∈ t5.map fun v => v.1) = c
            cases c with
            | true => exact ⟨_, rfl⟩
            | false =>
              rw [cond_false, decide_eq_true (by omega : 0 ≤ r2.2.1 + r2.1), decide_eq_true (by omega : r2.2.1 + r2.1 ≤ (((b.size : Nat) : Int))), decide_eq_true (by omega : 0 ≤ r2.2.1), decide_eq_true (by omega : r2.2.1 ≤ (((r2.2.1 + r2.1).toNat : Nat) : Int)), decide_eq_true (by simp; omega)]
              simp only [cond_true]
              obtain ⟨n, rfl⟩ : ∃ n', n = n' + 1 := ⟨n - 1, by omega⟩
              exact tlv10_total_loop b hb n k _ _ (by omega) (by omega) (by omega) (by omega) (by simp; omega)
        · simp only [z2, decide_false, Bool.not_false, cond_true]; exact ⟨_, rfl⟩
      · simp only [z1, decide_false, Bool.not_false, cond_true]; exact ⟨_, rfl⟩
    · rw [decide_eq_false hlt]; exact ⟨_, rfl⟩
theorem tlv10_total (b : ByteArray) (hb : b.size ≤ 1099511627776) : ∃ r, r10_Get b = some r := by
  unfold r10_Get r10_Get_s0
  dsimp only
  obtain ⟨r, hr⟩ := tlv10_total_loop b hb b.size FUEL [] 0 (by omega) (by omega) (by omega) (by rw [fuel_eq]; omega) (by simp; omega)
  rw [hr, Option.bind_some]
  cases r <;> exact ⟨_, rfl⟩
@[irreducible] def valC (s : Spec) (x : ByteArray) : Int := (r11_Value s x).getD 0
theorem Value11_eq (s : Spec) (x : ByteArray) (hx : x.size ≤ 1099511627776) : r11_Value s x = some (valC s x) := by
  have : ∃ v, r11_Value s x = some v := by
    unfold r11_Value r11_Value_s0
    rw [specCheck11_eq, Option.bind_some, First04_eq _ _ (by rw [maxLen_eq]; omega), Option.bind_some]
    obtain ⟨r, hr⟩ := tlv10_total x hx
    rw [hr, Option.bind_some]
    generalize (!decide (specC s = 0)) = c1
    generalize decide ((x.size : Int) < s.2.2.2.1) = c2
    generalize decide (s.2.2.2.2.1 < (x.size : Int)) = c3
    generalize decide ((0 : Int) ≤ firstC s.2.1 (bl x) 0) = c4
    generalize decide (s.2.1 = 6) = c5
    cases c1 <;> cases c2 <;> cases c3 <;> cases c4 <;> cases c5 <;> first | exact ⟨_, rfl⟩ | skip
    cases r with
    | inl r => simp only [cond_false, cond_true, Sum.elim_inl]; cases (!decide (r.2.1 = 0)) <;> exact ⟨_, rfl⟩
    | inr r => simp only [cond_false, cond_true, Sum.elim_inr]; cases (!decide (r.2.1 = 0)) <;> exact ⟨_, rfl⟩
  obtain ⟨v, hv⟩ := this
  unfold valC
  rw [hv]; rfl
theorem Value_eq' (s : Spec) (x : ByteArray) (hx : x.size ≤ 1099511627776) : spec_Value s x = some (valC s x) := by
  rw [Value_eq s x (by omega), Value11_eq s x hx]
@[irreducible] def widS (a b : Spec) : Bool := (r11_Wider a b).getD false
theorem Wider11_eq (a b : Spec) : r11_Wider a b = some (widS a b) := by
  have : ∃ v, r11_Wider a b = some v := by
    unfold r11_Wider r11_Wider_s0
    rw [specCheck11_eq, specCheck11_eq, Wider04_eq]
    simp only [Option.bind_some]
    generalize (!decide (specC a = 0)) = c1
    generalize (!decide (specC b = 0)) = c2
    generalize decide (b.2.2.2.1 < a.2.2.2.1) = c3
    generalize decide (a.2.2.2.2.1 < b.2.2.2.2.1) = c4
    generalize decide (a.2.1 = 5) = c5
    generalize decide (a.2.1 = 6) = c6
    generalize decide (b.2.1 = 6) = c7
    cases c1 <;> cases c2 <;> cases c3 <;> cases c4 <;> cases c5 <;> cases c6 <;> cases c7 <;> exact ⟨_, rfl⟩
  obtain ⟨v, hv⟩ := this
  unfold widS
  rw [hv]; rfl
theorem Wider_eq' (a b : Spec) : spec_Wider a b = some (widS a b) := by rw [specWider_eq, Wider11_eq]
end Groat
set_option linter.unusedVariables false
set_option linter.unusedSimpArgs false
namespace Groat
open Go Go.Ref
abbrev Rule := Int × Int × Int × ByteArray × List Pair × Unit
def getS (s : Schema) (no : Int) : Spec := (findS s.2.2.1 no).getD spec0
def hasS (s : Schema) (no : Int) : Bool := (findS s.2.2.1 no).isSome
theorem Find_eq2 (s : Schema) (no : Int) (hl : s.2.2.1.length ≤ maxLen) : schema_Find s no = some (getS s no, hasS s no) := by
  rw [Find_eq s no hl]
  unfold getS hasS
  cases findS s.2.2.1 no <;> rfl
theorem idx_cases (s : Schema) (no : Int) : (idxS s.2.2.1 no 0 = -1 ∧ hasS s no = false ∧ getS s no = spec0) ∨ (0 ≤ idxS s.2.2.1 no 0 ∧ idxS s.2.2.1 no 0 < s.2.2.1.length ∧ hasS s no = true ∧ s.2.2.1.getD (idxS s.2.2.1 no 0).toNat spec0 = getS s no) := by
  unfold hasS getS
  rcases idxS_range s.2.2.1 no 0 (Int.le_refl _) with ⟨h1, h2⟩ | ⟨h1, h2, x, h3, h4⟩
  · left; rw [h2]; exact ⟨h1, rfl, rfl⟩
  · right; rw [h3]; rw [Int.sub_zero] at h4; exact ⟨h1, by omega, rfl, h4⟩
def endsE (r : Rule) (a b : Schema) : Bool :=
  (bif decide (r.1 = 3) then !decide (r.2.1 = 0) else !hasS a r.2.1) || (bif decide (r.1 = 2) then !decide (r.2.2.1 = 0) else !hasS b r.2.2.1)
def textE (r : Rule) : Bool := (!decide (r.2.2.2.1 = bs []) && !decide (r.1 = 3)) || (decide (0 < (r.2.2.2.2.1.length : Int)) && !decide (r.1 = 5))
def padS (s : Spec) : Bool := decide (s.2.1 = 1) && decide (s.2.2.1 = 1)
def valsC : List Pair → Spec → Spec → Int
  | [], _, _ => 0
  | p :: r, x, y => bif !decide (valC x p.1 = 0) then valC x p.1 else bif !decide (valC y p.2.1 = 0) then valC y p.2.1 else valsC r x y
def tableR (l : List Pair) (x y : Spec) : Int := bif (!decide ((tableC l).1 = 0) || decide ((l.length : Int) = 0)) then 15 else valsC l x y
def kindC (r : Rule) (x y : Spec) : Int :=
  bif decide (r.1 = 1) then (bif widS y x then 0 else 6) else bif decide (r.1 = 3) then valC y r.2.2.2.1 else bif decide (r.1 = 4) then (bif padS x && padS y then 0 else 6) else bif decide (r.1 = 5) then tableR r.2.2.2.2.1 x y else 0
def ruleC (r : Rule) (a b : Schema) : Int :=
  bif decide (r.1 < 1) || decide (5 < r.1) then 1 else bif endsE r a b then 9 else bif textE r then 3 else kindC r (getS a r.2.1) (getS b r.2.2.1)
structure PairsOk (l : List Pair) : Prop where
  len : l.length ≤ 1000000
  sz : ∀ p ∈ l, p.1.size ≤ 1099511627776 ∧ p.2.1.size ≤ 1099511627776
structure RuleOk (r : Rule) : Prop where
  text : r.2.2.2.1.size ≤ 1099511627776
  pairs : PairsOk r.2.2.2.2.1
theorem ends_eq (r : Rule) (a b : Schema) (ha : a.2.2.1.length ≤ maxLen) (hb : b.2.2.1.length ≤ maxLen) : rule_ends r a b = some (getS a r.2.1, getS b r.2.2.1, bif endsE r a b then 9 else 0) := by
  unfold rule_ends rule_ends_s0 endsE
  rw [Find_eq2 a _ ha, Find_eq2 b _ hb]
  simp only [Option.bind_some]
  generalize decide (r.1 = 3) = k3
  generalize decide (r.1 = 2) = k2
  generalize decide (r.2.1 = 0) = z1
  generalize decide (r.2.2.1 = 0) = z2
  generalize hasS a r.2.1 = h1
  generalize hasS b r.2.2.1 = h2
  cases k3 <;> cases k2 <;> cases z1 <;> cases z2 <;> cases h1 <;> cases h2 <;> rfl
theorem padded_eq (s : Spec) : rule_padded s = some (padS s) := by
  unfold rule_padded rule_padded_s0 padS
  generalize decide (s.2.1 = 1) = c1
  generalize decide (s.2.2.1 = 1) = c2
  cases c1 <;> cases c2 <;> rfl
def vres (v : Int) : Sum Int Unit := if v = 0 then .inr () else .inl v
theorem table_run (x y : Spec) : ∀ (l : List Pair) (i : Int), (∀ p ∈ l, p.1.size ≤ 1099511627776 ∧ p.2.1.size ≤ 1099511627776) →
    runI (fun i (p : Pair) (s : Unit) K => ((spec_Value x p.1).bind fun r2 => (bif (!decide (r2 = 0)) then some (Sum.inl r2) else ((spec_Value y p.2.1).bind fun r3 => (bif (!decide (r3 = 0)) then some (Sum.inl r3) else K s))))) (fun _ => some (Sum.inr ())) l i () = some (vres (valsC l x y))
  | [], i, _ => rfl
  | p :: r, i, h => by
    obtain ⟨h1, h2⟩ := h p List.mem_cons_self
    simp only [runI, valsC]
    rw [Value_eq' x p.1 h1, Option.bind_some]
    by_cases z1 : valC x p.1 = 0
    · rw [decide_eq_true z1]
      simp only [Bool.not_true, cond_false]
      rw [Value_eq' y p.2.1 h2, Option.bind_some]
      by_cases z2 : valC y p.2.1 = 0
      · rw [decide_eq_true z2]
        simp only [Bool.not_true, cond_false]
        exact table_run x y r (i + 1) fun q hq => h q (List.mem_cons_of_mem _ hq)
      · rw [decide_eq_false z2]
        simp only [Bool.not_false, cond_true, vres, if_neg z2]
    · rw [decide_eq_false z1]
      simp only [Bool.not_false, cond_true, vres, if_neg z1]
theorem table_eq (l : List Pair) (x y : Spec) (h : PairsOk l) : rule_table l x y = some (tableR l x y) := by
  have hl := h.len
  unfold rule_table rule_table_s0 tableR
  dsimp only
  rw [codesCheck_eq l (by rw [maxLen_eq]; omega), Option.bind_some]
  cases (!decide ((tableC l).1 = 0)) with
  | true => rfl
  | false =>
    cases decide ((l.length : Int) = 0) with
    | true => rfl
    | false =>
      simp only [cond_false, Bool.or_false]
      have := loopI pair0 l (by rw [maxLen_eq]; omega) (fun i (p : Pair) (s : Unit) K => ((spec_Value x p.1).bind fun r2 => (bif (!decide (r2 = 0)) then some (Sum.inl r2) else ((spec_Value y p.2.1).bind fun r3 => (bif (!decide (r3 = 0)) then some (Sum.inl r3) else K s))))) (fun _ => some (Sum.inr ()))
        (fun k i s => rule_table_l0 k l (l.length : Int) i x y) (fun k i s => rfl) ()
      rw [this, table_run x y l 0 h.sz, Option.bind_some]
      unfold vres
      by_cases z : valsC l x y = 0
      · rw [if_pos z, z]; rfl
      · rw [if_neg z]; rfl
theorem ruleCheck_eq (r : Rule) (a b : Schema) (h : RuleOk r) (ha : a.2.2.1.length ≤ maxLen) (hb : b.2.2.1.length ≤ maxLen) : rule_Check r a b = some (ruleC r a b) := by
  unfold rule_Check rule_Check_s0 ruleC kindC textE
  rw [ends_eq r a b ha hb]
  simp only [Option.bind_some, Wider_eq', Value_eq' _ _ h.text, padded_eq, table_eq _ _ _ h.pairs]
  generalize endsE r a b = e
  generalize decide (r.1 < 1) = c1
  generalize decide ((5 : Int) < r.1) = c2
  generalize decide (r.2.2.2.1 = bs []) = t
  generalize decide ((0 : Int) < (r.2.2.2.2.1.length : Int)) = p
  generalize decide (r.1 = 1) = k1
  generalize decide (r.1 = 3) = k3
  generalize decide (r.1 = 4) = k4
  generalize decide (r.1 = 5) = k5
  generalize padS (getS a r.2.1) = p1
  generalize padS (getS b r.2.2.1) = p2
  generalize widS (getS b r.2.2.1) (getS a r.2.1) = w
  cases c1 <;> cases c2 <;> first | rfl | skip
  cases e <;> first | rfl | skip
  cases t <;> cases p <;> cases k3 <;> cases k5 <;> first | rfl | skip
  all_goals (cases k1 <;> cases k4 <;> cases p1 <;> cases p2 <;> cases w <;> rfl)
end Groat
