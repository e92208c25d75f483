/- What is shown here: plain functions and what they compute (parts: GDframe GDgroatref25 PuBase PuBits PuFields PuFrame PuRef25 PuRef05 PuSchema PuLaw13). No condition. -/
import Derived.Test.YtppogabndbpmbaaK1
import Derived.KernelRfl
/- The functions of frame as plain Lean. -/
set_option linter.unusedVariables false
set_option linter.unusedSimpArgs false
set_option maxRecDepth 100000
namespace Groat
open Go Go.Ref
def frame_New_s0 {R : Type} (most_0 : Int) (kr0 : Int → Option R) (kr1 : Int → (Int × Bool × (List Int) × Unit) → Option R) : Option R :=
  (bif (decide (most_0 < (1 : Int))) then (kr0 (5 : Int)) else (bif (decide ((65535 : Int) < most_0)) then (kr0 (5 : Int)) else (kr1 (0 : Int) (most_0, false, ([] : List Int), ()))))
theorem frame_New_s0_bind {R S : Type} (F : R → Option S) (most_0 : Int) (kr0 : Int → Option R) (kr1 : Int → (Int × Bool × (List Int) × Unit) → Option R) : (frame_New_s0 most_0 kr0 kr1).bind F = frame_New_s0 most_0 (fun a0 => (kr0 a0).bind F) (fun a0 a1 => (kr1 a0 a1).bind F) := by
  simp only [frame_New_s0, cond_bind, within_bind, none_bind, some_bind, sum_bind, bind_bind]
def frame_New (most_0 : Int) : Option (Sum Int (Int × (Int × Bool × (List Int) × Unit))) :=
  frame_New_s0 most_0 (fun a0 => some (.inl a0)) (fun a0 a1 => some (.inr (a0, a1)))
def frame_Framer_size_s0 {R : Type} (f_0 : (Int × Bool × (List Int) × Unit)) (kr0 : Int → (Int × Bool × (List Int) × Unit) → Option R) : Option R :=
  (bif (decide (((List.length f_0.2.2.1) : Int) < (2 : Int))) then (kr0 (0 : Int) f_0) else (within (0 : Int) (List.length f_0.2.2.1) (within (1 : Int) (List.length f_0.2.2.1) (kr0 (ibits .or .i64 (IntKind.i64.wrap ((IntKind.i64.wrap (List.getD f_0.2.2.1 ((0 : Int)).toNat (0 : Int))) * 2 ^ min ((8 : Int)).toNat 64)) (IntKind.i64.wrap (List.getD f_0.2.2.1 ((1 : Int)).toNat (0 : Int)))) f_0))))
theorem frame_Framer_size_s0_bind {R S : Type} (F : R → Option S) (f_0 : (Int × Bool × (List Int) × Unit)) (kr0 : Int → (Int × Bool × (List Int) × Unit) → Option R) : (frame_Framer_size_s0 f_0 kr0).bind F = frame_Framer_size_s0 f_0 (fun a0 a1 => (kr0 a0 a1).bind F) := by
  simp only [frame_Framer_size_s0, cond_bind, within_bind, none_bind, some_bind, sum_bind, bind_bind]
def frame_Framer_size (f_0 : (Int × Bool × (List Int) × Unit)) : Option (Int × (Int × Bool × (List Int) × Unit)) :=
  frame_Framer_size_s0 f_0 (fun a0 a1 => some (a0, a1))
def frame_Framer_Feed_s0 {R : Type} (f_0 : (Int × Bool × (List Int) × Unit)) (chunk_1 : ByteArray) (go0 : ByteArray → (List ByteArray) → Int → (Int × Bool × (List Int) × Unit) → Option R) : Option R :=
  (go0 chunk_1 ([] : List ByteArray) (0 : Int) f_0)
theorem frame_Framer_Feed_s0_bind {R S : Type} (F : R → Option S) (f_0 : (Int × Bool × (List Int) × Unit)) (chunk_1 : ByteArray) (go0 : ByteArray → (List ByteArray) → Int → (Int × Bool × (List Int) × Unit) → Option R) : (frame_Framer_Feed_s0 f_0 chunk_1 go0).bind F = frame_Framer_Feed_s0 f_0 chunk_1 (fun a0 a1 a2 a3 => (go0 a0 a1 a2 a3).bind F) := by
  simp only [frame_Framer_Feed_s0, cond_bind, within_bind, none_bind, some_bind, sum_bind, bind_bind]
def frame_Framer_Feed_s1 {R : Type} (chunk_1 : ByteArray) (t6 : (List ByteArray)) (t7 : Int) (recv : (Int × Bool × (List Int) × Unit)) (ex0_0 : (List ByteArray) → Bool → (List ByteArray) → (Int × Bool × (List Int) × Unit) → Option R) (nx0 : ByteArray → (List ByteArray) → Int → (Int × Bool × (List Int) × Unit) → Option R) (ex0_1 : (List ByteArray) → (Int × Bool × (List Int) × Unit) → Option R) : Option R :=
  (bif (decide (t7 < ((chunk_1).size : Int))) then (bif (!recv.2.1) then (within t7 (chunk_1).size (bif (decide (((List.length recv.2.2.1) + (List.length ([(byteAt chunk_1 (t7).toNat)] : List Int))) * 1 ≤ 140737488355328)) then ((frame_Framer_size (recv.1, recv.2.1, (recv.2.2.1 ++ ([(byteAt chunk_1 (t7).toNat)] : List Int)), ())).bind fun r1 => (bif (decide (((List.length r1.2.2.2.1) : Int) = (2 : Int))) then (bif (decide (r1.1 = (0 : Int))) then (ex0_0 t6 true t6 (r1.2.1, true, ([] : List Int), ())) else (bif (decide (r1.2.1 < r1.1)) then (ex0_0 t6 true t6 (r1.2.1, true, ([] : List Int), ())) else (bif (decide (((List.length r1.2.2.2.1) : Int) = (IntKind.i64.wrap ((2 : Int) + r1.1)))) then (bif (decide ((0 : Int) < r1.1)) then (bif (decide ((2 : Int) ≤ (((List.length r1.2.2.2.1) : Nat) : Int))) then (bif (decide (((List.length t6) + (List.length ([(strOf (List.drop ((2 : Int)).toNat (List.take (List.length r1.2.2.2.1) r1.2.2.2.1)))] : List ByteArray))) * 16 ≤ 140737488355328)) then (nx0 chunk_1 (t6 ++ ([(strOf (List.drop ((2 : Int)).toNat (List.take (List.length r1.2.2.2.1) r1.2.2.2.1)))] : List ByteArray)) (IntKind.i64.wrap (t7 + (1 : Int))) (r1.2.1, r1.2.2.1, ([] : List Int), ())) else none) else none) else (nx0 chunk_1 t6 (IntKind.i64.wrap (t7 + (1 : Int))) r1.2)) else (nx0 chunk_1 t6 (IntKind.i64.wrap (t7 + (1 : Int))) r1.2)))) else (bif (decide (((List.length r1.2.2.2.1) : Int) = (IntKind.i64.wrap ((2 : Int) + r1.1)))) then (bif (decide ((0 : Int) < r1.1)) then (bif (decide ((2 : Int) ≤ (((List.length r1.2.2.2.1) : Nat) : Int))) then (bif (decide (((List.length t6) + (List.length ([(strOf (List.drop ((2 : Int)).toNat (List.take (List.length r1.2.2.2.1) r1.2.2.2.1)))] : List ByteArray))) * 16 ≤ 140737488355328)) then (nx0 chunk_1 (t6 ++ ([(strOf (List.drop ((2 : Int)).toNat (List.take (List.length r1.2.2.2.1) r1.2.2.2.1)))] : List ByteArray)) (IntKind.i64.wrap (t7 + (1 : Int))) (r1.2.1, r1.2.2.1, ([] : List Int), ())) else none) else none) else (nx0 chunk_1 t6 (IntKind.i64.wrap (t7 + (1 : Int))) r1.2)) else (nx0 chunk_1 t6 (IntKind.i64.wrap (t7 + (1 : Int))) r1.2)))) else none)) else (ex0_1 t6 recv)) else (ex0_1 t6 recv))
theorem frame_Framer_Feed_s1_bind {R S : Type} (F : R → Option S) (chunk_1 : ByteArray) (t6 : (List ByteArray)) (t7 : Int) (recv : (Int × Bool × (List Int) × Unit)) (ex0_0 : (List ByteArray) → Bool → (List ByteArray) → (Int × Bool × (List Int) × Unit) → Option R) (nx0 : ByteArray → (List ByteArray) → Int → (Int × Bool × (List Int) × Unit) → Option R) (ex0_1 : (List ByteArray) → (Int × Bool × (List Int) × Unit) → Option R) : (frame_Framer_Feed_s1 chunk_1 t6 t7 recv ex0_0 nx0 ex0_1).bind F = frame_Framer_Feed_s1 chunk_1 t6 t7 recv (fun a0 a1 a2 a3 => (ex0_0 a0 a1 a2 a3).bind F) (fun a0 a1 a2 a3 => (nx0 a0 a1 a2 a3).bind F) (fun a0 a1 => (ex0_1 a0 a1).bind F) := by
  simp only [frame_Framer_Feed_s1, cond_bind, within_bind, none_bind, some_bind, sum_bind, bind_bind]
def frame_Framer_Feed_s2 {R : Type} (t4 : (List ByteArray)) (t5 : Bool) (t6 : (List ByteArray)) (recv : (Int × Bool × (List Int) × Unit)) (kr0 : (List ByteArray) → Bool → (Int × Bool × (List Int) × Unit) → Option R) : Option R :=
  (kr0 t4 t5 recv)
theorem frame_Framer_Feed_s2_bind {R S : Type} (F : R → Option S) (t4 : (List ByteArray)) (t5 : Bool) (t6 : (List ByteArray)) (recv : (Int × Bool × (List Int) × Unit)) (kr0 : (List ByteArray) → Bool → (Int × Bool × (List Int) × Unit) → Option R) : (frame_Framer_Feed_s2 t4 t5 t6 recv kr0).bind F = frame_Framer_Feed_s2 t4 t5 t6 recv (fun a0 a1 a2 => (kr0 a0 a1 a2).bind F) := by
  simp only [frame_Framer_Feed_s2, cond_bind, within_bind, none_bind, some_bind, sum_bind, bind_bind]
def frame_Framer_Feed_s3 {R : Type} (t6 : (List ByteArray)) (recv : (Int × Bool × (List Int) × Unit)) (kr0 : (List ByteArray) → Bool → (Int × Bool × (List Int) × Unit) → Option R) : Option R :=
  (kr0 t6 false recv)
theorem frame_Framer_Feed_s3_bind {R S : Type} (F : R → Option S) (t6 : (List ByteArray)) (recv : (Int × Bool × (List Int) × Unit)) (kr0 : (List ByteArray) → Bool → (Int × Bool × (List Int) × Unit) → Option R) : (frame_Framer_Feed_s3 t6 recv kr0).bind F = frame_Framer_Feed_s3 t6 recv (fun a0 a1 a2 => (kr0 a0 a1 a2).bind F) := by
  simp only [frame_Framer_Feed_s3, cond_bind, within_bind, none_bind, some_bind, sum_bind, bind_bind]
def frame_Framer_Feed_l0 : Nat → ByteArray → (List ByteArray) → Int → (Int × Bool × (List Int) × Unit) → Option (Sum ((List ByteArray) × Bool × (List ByteArray) × (Int × Bool × (List Int) × Unit)) ((List ByteArray) × (Int × Bool × (List Int) × Unit)))
  | 0, _, _, _, _ => none
  | k + 1, v0, v1, v2, v3 => frame_Framer_Feed_s1 v0 v1 v2 v3 (fun a0 a1 a2 a3 => some (.inl (a0, a1, a2, a3))) (fun a0 a1 a2 a3 => frame_Framer_Feed_l0 k a0 a1 a2 a3) (fun a0 a1 => some (.inr (a0, a1)))
def frame_Framer_Feed (f_0 : (Int × Bool × (List Int) × Unit)) (chunk_1 : ByteArray) : Option ((List ByteArray) × Bool × (Int × Bool × (List Int) × Unit)) :=
  frame_Framer_Feed_s0 f_0 chunk_1 (fun a0 a1 a2 a3 => (frame_Framer_Feed_l0 FUEL a0 a1 a2 a3).bind fun e => (Sum.elim (fun (we : ((List ByteArray) × Bool × (List ByteArray) × (Int × Bool × (List Int) × Unit))) => frame_Framer_Feed_s2 we.1 we.2.1 we.2.2.1 we.2.2.2 (fun a0 a1 a2 => some (a0, a1, a2))) (fun (we : ((List ByteArray) × (Int × Bool × (List Int) × Unit))) => frame_Framer_Feed_s3 we.1 we.2 (fun a0 a1 a2 => some (a0, a1, a2))) e))
def frame_Framer_Held_s0 {R : Type} (f_0 : (Int × Bool × (List Int) × Unit)) (kr0 : Int → (Int × Bool × (List Int) × Unit) → Option R) : Option R :=
  (kr0 ((List.length f_0.2.2.1) : Int) f_0)
theorem frame_Framer_Held_s0_bind {R S : Type} (F : R → Option S) (f_0 : (Int × Bool × (List Int) × Unit)) (kr0 : Int → (Int × Bool × (List Int) × Unit) → Option R) : (frame_Framer_Held_s0 f_0 kr0).bind F = frame_Framer_Held_s0 f_0 (fun a0 a1 => (kr0 a0 a1).bind F) := by
  simp only [frame_Framer_Held_s0, cond_bind, within_bind, none_bind, some_bind, sum_bind, bind_bind]
def frame_Framer_Held (f_0 : (Int × Bool × (List Int) × Unit)) : Option (Int × (Int × Bool × (List Int) × Unit)) :=
  frame_Framer_Held_s0 f_0 (fun a0 a1 => some (a0, a1))
def frame_Put_s0 {R : Type} (payload_0 : ByteArray) (kr0 : ByteArray → Int → Option R) : Option R :=
  (bif (decide (((payload_0).size : Int) < (1 : Int))) then (kr0 (bs []) (5 : Int)) else (bif (decide ((65535 : Int) < ((payload_0).size : Int))) then (kr0 (bs []) (5 : Int)) else (bif decide (((strOf ([(IntKind.u8.wrap (Int.fdiv ((payload_0).size : Int) (2 ^ min ((8 : Int)).toNat 64))), (IntKind.u8.wrap ((payload_0).size : Int))] : List Int))).size + (payload_0).size ≤ 9223372036854775807) then (kr0 ((strOf ([(IntKind.u8.wrap (Int.fdiv ((payload_0).size : Int) (2 ^ min ((8 : Int)).toNat 64))), (IntKind.u8.wrap ((payload_0).size : Int))] : List Int)) ++ payload_0) (0 : Int)) else none)))
theorem frame_Put_s0_bind {R S : Type} (F : R → Option S) (payload_0 : ByteArray) (kr0 : ByteArray → Int → Option R) : (frame_Put_s0 payload_0 kr0).bind F = frame_Put_s0 payload_0 (fun a0 a1 => (kr0 a0 a1).bind F) := by
  simp only [frame_Put_s0, cond_bind, within_bind, none_bind, some_bind, sum_bind, bind_bind]
def frame_Put (payload_0 : ByteArray) : Option (ByteArray × Int) :=
  frame_Put_s0 payload_0 (fun a0 a1 => some (a0, a1))
def frame_Framer_Dead_s0 {R : Type} (f_0 : (Int × Bool × (List Int) × Unit)) (kr0 : Bool → (Int × Bool × (List Int) × Unit) → Option R) : Option R :=
  (kr0 f_0.2.1 f_0)
theorem frame_Framer_Dead_s0_bind {R S : Type} (F : R → Option S) (f_0 : (Int × Bool × (List Int) × Unit)) (kr0 : Bool → (Int × Bool × (List Int) × Unit) → Option R) : (frame_Framer_Dead_s0 f_0 kr0).bind F = frame_Framer_Dead_s0 f_0 (fun a0 a1 => (kr0 a0 a1).bind F) := by
  simp only [frame_Framer_Dead_s0, cond_bind, within_bind, none_bind, some_bind, sum_bind, bind_bind]
def frame_Framer_Dead (f_0 : (Int × Bool × (List Int) × Unit)) : Option (Bool × (Int × Bool × (List Int) × Unit)) :=
  frame_Framer_Dead_s0 f_0 (fun a0 a1 => some (a0, a1))
end Groat

/- The functions of groatref25 as plain Lean. -/
set_option linter.unusedVariables false
set_option linter.unusedSimpArgs false
set_option maxRecDepth 100000
namespace Groat
open Go Go.Ref
def groatref25_Same_s0 {R : Type} (a_0 : (List ByteArray)) (b_1 : (List ByteArray)) (kr0 : Bool → Option R) (go0 : (List ByteArray) → (List ByteArray) → Int → Option R) : Option R :=
  (bif (!(decide (((List.length a_0) : Int) = ((List.length b_1) : Int)))) then (kr0 false) else (go0 a_0 b_1 (0 : Int)))
theorem groatref25_Same_s0_bind {R S : Type} (F : R → Option S) (a_0 : (List ByteArray)) (b_1 : (List ByteArray)) (kr0 : Bool → Option R) (go0 : (List ByteArray) → (List ByteArray) → Int → Option R) : (groatref25_Same_s0 a_0 b_1 kr0 go0).bind F = groatref25_Same_s0 a_0 b_1 (fun a0 => (kr0 a0).bind F) (fun a0 a1 a2 => (go0 a0 a1 a2).bind F) := by
  simp only [groatref25_Same_s0, cond_bind, within_bind, none_bind, some_bind, sum_bind, bind_bind]
def groatref25_Same_s1 {R : Type} (a_0 : (List ByteArray)) (b_1 : (List ByteArray)) (t5 : Int) (ex0_0 : Bool → Option R) (nx0 : (List ByteArray) → (List ByteArray) → Int → Option R) (ex0_1 : Option R) : Option R :=
  (bif (decide (t5 < ((List.length a_0) : Int))) then (within t5 (List.length a_0) (within t5 (List.length b_1) (bif (!(decide ((List.getD a_0 (t5).toNat (bs [])) = (List.getD b_1 (t5).toNat (bs []))))) then (ex0_0 false) else (nx0 a_0 b_1 (IntKind.i64.wrap (t5 + (1 : Int))))))) else (ex0_1))
theorem groatref25_Same_s1_bind {R S : Type} (F : R → Option S) (a_0 : (List ByteArray)) (b_1 : (List ByteArray)) (t5 : Int) (ex0_0 : Bool → Option R) (nx0 : (List ByteArray) → (List ByteArray) → Int → Option R) (ex0_1 : Option R) : (groatref25_Same_s1 a_0 b_1 t5 ex0_0 nx0 ex0_1).bind F = groatref25_Same_s1 a_0 b_1 t5 (fun a0 => (ex0_0 a0).bind F) (fun a0 a1 a2 => (nx0 a0 a1 a2).bind F) ((ex0_1).bind F) := by
  simp only [groatref25_Same_s1, cond_bind, within_bind, none_bind, some_bind, sum_bind, bind_bind]
def groatref25_Same_s2 {R : Type} (t4 : Bool) (kr0 : Bool → Option R) : Option R :=
  (kr0 t4)
theorem groatref25_Same_s2_bind {R S : Type} (F : R → Option S) (t4 : Bool) (kr0 : Bool → Option R) : (groatref25_Same_s2 t4 kr0).bind F = groatref25_Same_s2 t4 (fun a0 => (kr0 a0).bind F) := by
  simp only [groatref25_Same_s2, cond_bind, within_bind, none_bind, some_bind, sum_bind, bind_bind]
def groatref25_Same_s3 {R : Type}  (kr0 : Bool → Option R) : Option R :=
  (kr0 true)
theorem groatref25_Same_s3_bind {R S : Type} (F : R → Option S)  (kr0 : Bool → Option R) : (groatref25_Same_s3 kr0).bind F = groatref25_Same_s3 (fun a0 => (kr0 a0).bind F) := by
  simp only [groatref25_Same_s3, cond_bind, within_bind, none_bind, some_bind, sum_bind, bind_bind]
def groatref25_Same_l0 : Nat → (List ByteArray) → (List ByteArray) → Int → Option (Sum Bool Unit)
  | 0, _, _, _ => none
  | k + 1, v0, v1, v2 => groatref25_Same_s1 v0 v1 v2 (fun a0 => some (.inl a0)) (fun a0 a1 a2 => groatref25_Same_l0 k a0 a1 a2) (some (.inr ()))
def groatref25_Same (a_0 : (List ByteArray)) (b_1 : (List ByteArray)) : Option Bool :=
  groatref25_Same_s0 a_0 b_1 (fun a0 => some a0) (fun a0 a1 a2 => (groatref25_Same_l0 FUEL a0 a1 a2).bind fun e => (Sum.elim (fun (we : Bool) => groatref25_Same_s2 we (fun a0 => some a0)) (fun (we : Unit) => groatref25_Same_s3 (fun a0 => some a0)) e))
def groatref25_Put_s0 {R : Type} (payload_0 : ByteArray) (kr0 : ByteArray → Option R) : Option R :=
  (bif (decide (((payload_0).size : Int) = (0 : Int))) then (kr0 (bs [])) else (bif (decide ((65535 : Int) < ((payload_0).size : Int))) then (kr0 (bs [])) else (bif decide (((strOf ([(IntKind.u8.wrap (IntKind.i64.wrap (Int.tdiv ((payload_0).size : Int) (256 : Int)))), (IntKind.u8.wrap (Int.tmod ((payload_0).size : Int) (256 : Int)))] : List Int))).size + (payload_0).size ≤ 9223372036854775807) then (kr0 ((strOf ([(IntKind.u8.wrap (IntKind.i64.wrap (Int.tdiv ((payload_0).size : Int) (256 : Int)))), (IntKind.u8.wrap (Int.tmod ((payload_0).size : Int) (256 : Int)))] : List Int)) ++ payload_0)) else none)))
theorem groatref25_Put_s0_bind {R S : Type} (F : R → Option S) (payload_0 : ByteArray) (kr0 : ByteArray → Option R) : (groatref25_Put_s0 payload_0 kr0).bind F = groatref25_Put_s0 payload_0 (fun a0 => (kr0 a0).bind F) := by
  simp only [groatref25_Put_s0, cond_bind, within_bind, none_bind, some_bind, sum_bind, bind_bind]
def groatref25_Put (payload_0 : ByteArray) : Option ByteArray :=
  groatref25_Put_s0 payload_0 (fun a0 => some a0)
def groatref25_Great_s0 {R : Type} (l_0 : (List ByteArray)) (most_1 : Int) (go0 : (List ByteArray) → Int → Int → Int → Option R) : Option R :=
  (go0 l_0 most_1 ((List.length l_0) : Int) (0 : Int))
theorem groatref25_Great_s0_bind {R S : Type} (F : R → Option S) (l_0 : (List ByteArray)) (most_1 : Int) (go0 : (List ByteArray) → Int → Int → Int → Option R) : (groatref25_Great_s0 l_0 most_1 go0).bind F = groatref25_Great_s0 l_0 most_1 (fun a0 a1 a2 a3 => (go0 a0 a1 a2 a3).bind F) := by
  simp only [groatref25_Great_s0, cond_bind, within_bind, none_bind, some_bind, sum_bind, bind_bind]
def groatref25_Great_s1 {R : Type} (l_0 : (List ByteArray)) (most_1 : Int) (t5 : Int) (t6 : Int) (ex0_0 : Int → Bool → Int → Option R) (nx0 : (List ByteArray) → Int → Int → Int → Option R) (ex0_1 : Int → Int → Option R) : Option R :=
  (bif (decide (t6 < ((List.length l_0) : Int))) then (bif (decide (most_1 < t5)) then (ex0_0 most_1 true t5) else (within t6 (List.length l_0) (bif (decide (most_1 < (((List.getD l_0 (t6).toNat (bs []))).size : Int))) then (ex0_0 most_1 true t5) else (within t6 (List.length l_0) (nx0 l_0 most_1 (IntKind.i64.wrap (t5 + (((List.getD l_0 (t6).toNat (bs []))).size : Int))) (IntKind.i64.wrap (t6 + (1 : Int)))))))) else (ex0_1 most_1 t5))
theorem groatref25_Great_s1_bind {R S : Type} (F : R → Option S) (l_0 : (List ByteArray)) (most_1 : Int) (t5 : Int) (t6 : Int) (ex0_0 : Int → Bool → Int → Option R) (nx0 : (List ByteArray) → Int → Int → Int → Option R) (ex0_1 : Int → Int → Option R) : (groatref25_Great_s1 l_0 most_1 t5 t6 ex0_0 nx0 ex0_1).bind F = groatref25_Great_s1 l_0 most_1 t5 t6 (fun a0 a1 a2 => (ex0_0 a0 a1 a2).bind F) (fun a0 a1 a2 a3 => (nx0 a0 a1 a2 a3).bind F) (fun a0 a1 => (ex0_1 a0 a1).bind F) := by
  simp only [groatref25_Great_s1, cond_bind, within_bind, none_bind, some_bind, sum_bind, bind_bind]
def groatref25_Great_s2 {R : Type} (most_1 : Int) (t4 : Bool) (t5 : Int) (kr0 : Bool → Option R) : Option R :=
  (kr0 t4)
theorem groatref25_Great_s2_bind {R S : Type} (F : R → Option S) (most_1 : Int) (t4 : Bool) (t5 : Int) (kr0 : Bool → Option R) : (groatref25_Great_s2 most_1 t4 t5 kr0).bind F = groatref25_Great_s2 most_1 t4 t5 (fun a0 => (kr0 a0).bind F) := by
  simp only [groatref25_Great_s2, cond_bind, within_bind, none_bind, some_bind, sum_bind, bind_bind]
def groatref25_Great_s3 {R : Type} (most_1 : Int) (t5 : Int) (kr0 : Bool → Option R) : Option R :=
  (kr0 (decide (most_1 < t5)))
theorem groatref25_Great_s3_bind {R S : Type} (F : R → Option S) (most_1 : Int) (t5 : Int) (kr0 : Bool → Option R) : (groatref25_Great_s3 most_1 t5 kr0).bind F = groatref25_Great_s3 most_1 t5 (fun a0 => (kr0 a0).bind F) := by
  simp only [groatref25_Great_s3, cond_bind, within_bind, none_bind, some_bind, sum_bind, bind_bind]
def groatref25_Great_l0 : Nat → (List ByteArray) → Int → Int → Int → Option (Sum (Int × Bool × Int) (Int × Int))
  | 0, _, _, _, _ => none
  | k + 1, v0, v1, v2, v3 => groatref25_Great_s1 v0 v1 v2 v3 (fun a0 a1 a2 => some (.inl (a0, a1, a2))) (fun a0 a1 a2 a3 => groatref25_Great_l0 k a0 a1 a2 a3) (fun a0 a1 => some (.inr (a0, a1)))
def groatref25_Great (l_0 : (List ByteArray)) (most_1 : Int) : Option Bool :=
  groatref25_Great_s0 l_0 most_1 (fun a0 a1 a2 a3 => (groatref25_Great_l0 FUEL a0 a1 a2 a3).bind fun e => (Sum.elim (fun (we : (Int × Bool × Int)) => groatref25_Great_s2 we.1 we.2.1 we.2.2 (fun a0 => some a0)) (fun (we : (Int × Int)) => groatref25_Great_s3 we.1 we.2 (fun a0 => some a0)) e))
def groatref25_Segment_s0 {R : Type} (most_0 : Int) (s_1 : ByteArray) (go0 : Int → ByteArray → (List ByteArray) → (List Int) → Int → Option R) : Option R :=
  (go0 most_0 s_1 ([] : List ByteArray) ([] : List Int) (0 : Int))
theorem groatref25_Segment_s0_bind {R S : Type} (F : R → Option S) (most_0 : Int) (s_1 : ByteArray) (go0 : Int → ByteArray → (List ByteArray) → (List Int) → Int → Option R) : (groatref25_Segment_s0 most_0 s_1 go0).bind F = groatref25_Segment_s0 most_0 s_1 (fun a0 a1 a2 a3 a4 => (go0 a0 a1 a2 a3 a4).bind F) := by
  simp only [groatref25_Segment_s0, cond_bind, within_bind, none_bind, some_bind, sum_bind, bind_bind]
def groatref25_Segment_s1 {R : Type} (most_0 : Int) (s_1 : ByteArray) (t8 : (List ByteArray)) (t9 : (List Int)) (t10 : Int) (ex0_0 : ByteArray → (List ByteArray) → Int → (List Int) → Int → (List ByteArray) → (List Int) → Int → Option R) (nx0 : Int → ByteArray → (List ByteArray) → (List Int) → Int → Option R) (ex0_1 : ByteArray → (List ByteArray) → (List Int) → Int → Option R) : Option R :=
  (bif (decide ((2 : Int) ≤ (IntKind.i64.wrap (((s_1).size : Int) - t10)))) then (within t10 (s_1).size (within (IntKind.i64.wrap (t10 + (1 : Int))) (s_1).size (bif (decide ((IntKind.i64.wrap ((IntKind.i64.wrap ((IntKind.i64.wrap (byteAt s_1 (t10).toNat)) * (256 : Int))) + (IntKind.i64.wrap (byteAt s_1 ((IntKind.i64.wrap (t10 + (1 : Int)))).toNat)))) = (0 : Int))) then (ex0_0 s_1 t8 (0 : Int) t9 (IntKind.i64.wrap (t10 + (2 : Int))) t8 t9 t10) else (bif (decide (most_0 < (IntKind.i64.wrap ((IntKind.i64.wrap ((IntKind.i64.wrap (byteAt s_1 (t10).toNat)) * (256 : Int))) + (IntKind.i64.wrap (byteAt s_1 ((IntKind.i64.wrap (t10 + (1 : Int)))).toNat)))))) then (ex0_0 s_1 t8 (0 : Int) t9 (IntKind.i64.wrap (t10 + (2 : Int))) t8 t9 t10) else (bif (decide ((IntKind.i64.wrap ((IntKind.i64.wrap (((s_1).size : Int) - t10)) - (2 : Int))) < (IntKind.i64.wrap ((IntKind.i64.wrap ((IntKind.i64.wrap (byteAt s_1 (t10).toNat)) * (256 : Int))) + (IntKind.i64.wrap (byteAt s_1 ((IntKind.i64.wrap (t10 + (1 : Int)))).toNat)))))) then (ex0_0 s_1 t8 (IntKind.i64.wrap (((s_1).size : Int) - t10)) t9 (-1 : Int) t8 t9 t10) else (bif (decide ((0 : Int) ≤ (IntKind.i64.wrap ((IntKind.i64.wrap (t10 + (2 : Int))) + (IntKind.i64.wrap ((IntKind.i64.wrap ((IntKind.i64.wrap (byteAt s_1 (t10).toNat)) * (256 : Int))) + (IntKind.i64.wrap (byteAt s_1 ((IntKind.i64.wrap (t10 + (1 : Int)))).toNat)))))))) then (bif (decide ((IntKind.i64.wrap ((IntKind.i64.wrap (t10 + (2 : Int))) + (IntKind.i64.wrap ((IntKind.i64.wrap ((IntKind.i64.wrap (byteAt s_1 (t10).toNat)) * (256 : Int))) + (IntKind.i64.wrap (byteAt s_1 ((IntKind.i64.wrap (t10 + (1 : Int)))).toNat)))))) ≤ (((s_1).size : Nat) : Int))) then (bif (decide ((0 : Int) ≤ (IntKind.i64.wrap (t10 + (2 : Int))))) then (bif (decide ((IntKind.i64.wrap (t10 + (2 : Int))) ≤ ((((IntKind.i64.wrap ((IntKind.i64.wrap (t10 + (2 : Int))) + (IntKind.i64.wrap ((IntKind.i64.wrap ((IntKind.i64.wrap (byteAt s_1 (t10).toNat)) * (256 : Int))) + (IntKind.i64.wrap (byteAt s_1 ((IntKind.i64.wrap (t10 + (1 : Int)))).toNat))))))).toNat : Nat) : Int))) then (bif (decide (((List.length t8) + (List.length ([((s_1).extract ((IntKind.i64.wrap (t10 + (2 : Int)))).toNat ((IntKind.i64.wrap ((IntKind.i64.wrap (t10 + (2 : Int))) + (IntKind.i64.wrap ((IntKind.i64.wrap ((IntKind.i64.wrap (byteAt s_1 (t10).toNat)) * (256 : Int))) + (IntKind.i64.wrap (byteAt s_1 ((IntKind.i64.wrap (t10 + (1 : Int)))).toNat))))))).toNat)] : List ByteArray))) * 16 ≤ 140737488355328)) then (bif (decide (((List.length t9) + (List.length ([(IntKind.i64.wrap ((IntKind.i64.wrap (t10 + (2 : Int))) + (IntKind.i64.wrap ((IntKind.i64.wrap ((IntKind.i64.wrap (byteAt s_1 (t10).toNat)) * (256 : Int))) + (IntKind.i64.wrap (byteAt s_1 ((IntKind.i64.wrap (t10 + (1 : Int)))).toNat))))))] : List Int))) * 8 ≤ 140737488355328)) then (nx0 most_0 s_1 (t8 ++ ([((s_1).extract ((IntKind.i64.wrap (t10 + (2 : Int)))).toNat ((IntKind.i64.wrap ((IntKind.i64.wrap (t10 + (2 : Int))) + (IntKind.i64.wrap ((IntKind.i64.wrap ((IntKind.i64.wrap (byteAt s_1 (t10).toNat)) * (256 : Int))) + (IntKind.i64.wrap (byteAt s_1 ((IntKind.i64.wrap (t10 + (1 : Int)))).toNat))))))).toNat)] : List ByteArray)) (t9 ++ ([(IntKind.i64.wrap ((IntKind.i64.wrap (t10 + (2 : Int))) + (IntKind.i64.wrap ((IntKind.i64.wrap ((IntKind.i64.wrap (byteAt s_1 (t10).toNat)) * (256 : Int))) + (IntKind.i64.wrap (byteAt s_1 ((IntKind.i64.wrap (t10 + (1 : Int)))).toNat))))))] : List Int)) (IntKind.i64.wrap ((IntKind.i64.wrap (t10 + (2 : Int))) + (IntKind.i64.wrap ((IntKind.i64.wrap ((IntKind.i64.wrap (byteAt s_1 (t10).toNat)) * (256 : Int))) + (IntKind.i64.wrap (byteAt s_1 ((IntKind.i64.wrap (t10 + (1 : Int)))).toNat))))))) else none) else none) else none) else none) else none) else none)))))) else (ex0_1 s_1 t8 t9 t10))
theorem groatref25_Segment_s1_bind {R S : Type} (F : R → Option S) (most_0 : Int) (s_1 : ByteArray) (t8 : (List ByteArray)) (t9 : (List Int)) (t10 : Int) (ex0_0 : ByteArray → (List ByteArray) → Int → (List Int) → Int → (List ByteArray) → (List Int) → Int → Option R) (nx0 : Int → ByteArray → (List ByteArray) → (List Int) → Int → Option R) (ex0_1 : ByteArray → (List ByteArray) → (List Int) → Int → Option R) : (groatref25_Segment_s1 most_0 s_1 t8 t9 t10 ex0_0 nx0 ex0_1).bind F = groatref25_Segment_s1 most_0 s_1 t8 t9 t10 (fun a0 a1 a2 a3 a4 a5 a6 a7 => (ex0_0 a0 a1 a2 a3 a4 a5 a6 a7).bind F) (fun a0 a1 a2 a3 a4 => (nx0 a0 a1 a2 a3 a4).bind F) (fun a0 a1 a2 a3 => (ex0_1 a0 a1 a2 a3).bind F) := by
  simp only [groatref25_Segment_s1, cond_bind, within_bind, none_bind, some_bind, sum_bind, bind_bind]
def groatref25_Segment_s2 {R : Type} (s_1 : ByteArray) (t4 : (List ByteArray)) (t5 : Int) (t6 : (List Int)) (t7 : Int) (t8 : (List ByteArray)) (t9 : (List Int)) (t10 : Int) (kr0 : (List ByteArray) → Int → (List Int) → Int → Option R) : Option R :=
  (kr0 t4 t5 t6 t7)
theorem groatref25_Segment_s2_bind {R S : Type} (F : R → Option S) (s_1 : ByteArray) (t4 : (List ByteArray)) (t5 : Int) (t6 : (List Int)) (t7 : Int) (t8 : (List ByteArray)) (t9 : (List Int)) (t10 : Int) (kr0 : (List ByteArray) → Int → (List Int) → Int → Option R) : (groatref25_Segment_s2 s_1 t4 t5 t6 t7 t8 t9 t10 kr0).bind F = groatref25_Segment_s2 s_1 t4 t5 t6 t7 t8 t9 t10 (fun a0 a1 a2 a3 => (kr0 a0 a1 a2 a3).bind F) := by
  simp only [groatref25_Segment_s2, cond_bind, within_bind, none_bind, some_bind, sum_bind, bind_bind]
def groatref25_Segment_s3 {R : Type} (s_1 : ByteArray) (t8 : (List ByteArray)) (t9 : (List Int)) (t10 : Int) (kr0 : (List ByteArray) → Int → (List Int) → Int → Option R) : Option R :=
  (kr0 t8 (IntKind.i64.wrap (((s_1).size : Int) - t10)) t9 (-1 : Int))
theorem groatref25_Segment_s3_bind {R S : Type} (F : R → Option S) (s_1 : ByteArray) (t8 : (List ByteArray)) (t9 : (List Int)) (t10 : Int) (kr0 : (List ByteArray) → Int → (List Int) → Int → Option R) : (groatref25_Segment_s3 s_1 t8 t9 t10 kr0).bind F = groatref25_Segment_s3 s_1 t8 t9 t10 (fun a0 a1 a2 a3 => (kr0 a0 a1 a2 a3).bind F) := by
  simp only [groatref25_Segment_s3, cond_bind, within_bind, none_bind, some_bind, sum_bind, bind_bind]
def groatref25_Segment_l0 : Nat → Int → ByteArray → (List ByteArray) → (List Int) → Int → Option (Sum (ByteArray × (List ByteArray) × Int × (List Int) × Int × (List ByteArray) × (List Int) × Int) (ByteArray × (List ByteArray) × (List Int) × Int))
  | 0, _, _, _, _, _ => none
  | k + 1, v0, v1, v2, v3, v4 => groatref25_Segment_s1 v0 v1 v2 v3 v4 (fun a0 a1 a2 a3 a4 a5 a6 a7 => some (.inl (a0, a1, a2, a3, a4, a5, a6, a7))) (fun a0 a1 a2 a3 a4 => groatref25_Segment_l0 k a0 a1 a2 a3 a4) (fun a0 a1 a2 a3 => some (.inr (a0, a1, a2, a3)))
def groatref25_Segment (most_0 : Int) (s_1 : ByteArray) : Option ((List ByteArray) × Int × (List Int) × Int) :=
  groatref25_Segment_s0 most_0 s_1 (fun a0 a1 a2 a3 a4 => (groatref25_Segment_l0 FUEL a0 a1 a2 a3 a4).bind fun e => (Sum.elim (fun (we : (ByteArray × (List ByteArray) × Int × (List Int) × Int × (List ByteArray) × (List Int) × Int)) => groatref25_Segment_s2 we.1 we.2.1 we.2.2.1 we.2.2.2.1 we.2.2.2.2.1 we.2.2.2.2.2.1 we.2.2.2.2.2.2.1 we.2.2.2.2.2.2.2 (fun a0 a1 a2 a3 => some (a0, a1, a2, a3))) (fun (we : (ByteArray × (List ByteArray) × (List Int) × Int)) => groatref25_Segment_s3 we.1 we.2.1 we.2.2.1 we.2.2.2 (fun a0 a1 a2 a3 => some (a0, a1, a2, a3))) e))
def groatref25_Join_s0 {R : Type} (l_0 : (List ByteArray)) (go0 : (List ByteArray) → ByteArray → Int → Option R) : Option R :=
  (go0 l_0 (bs []) (0 : Int))
theorem groatref25_Join_s0_bind {R S : Type} (F : R → Option S) (l_0 : (List ByteArray)) (go0 : (List ByteArray) → ByteArray → Int → Option R) : (groatref25_Join_s0 l_0 go0).bind F = groatref25_Join_s0 l_0 (fun a0 a1 a2 => (go0 a0 a1 a2).bind F) := by
  simp only [groatref25_Join_s0, cond_bind, within_bind, none_bind, some_bind, sum_bind, bind_bind]
def groatref25_Join_s1 {R : Type} (l_0 : (List ByteArray)) (t3 : ByteArray) (t4 : Int) (nx0 : (List ByteArray) → ByteArray → Int → Option R) (ex0_0 : ByteArray → Option R) : Option R :=
  (bif (decide (t4 < ((List.length l_0) : Int))) then (within t4 (List.length l_0) (bif decide ((t3).size + ((List.getD l_0 (t4).toNat (bs []))).size ≤ 9223372036854775807) then (nx0 l_0 (t3 ++ (List.getD l_0 (t4).toNat (bs []))) (IntKind.i64.wrap (t4 + (1 : Int)))) else none)) else (ex0_0 t3))
theorem groatref25_Join_s1_bind {R S : Type} (F : R → Option S) (l_0 : (List ByteArray)) (t3 : ByteArray) (t4 : Int) (nx0 : (List ByteArray) → ByteArray → Int → Option R) (ex0_0 : ByteArray → Option R) : (groatref25_Join_s1 l_0 t3 t4 nx0 ex0_0).bind F = groatref25_Join_s1 l_0 t3 t4 (fun a0 a1 a2 => (nx0 a0 a1 a2).bind F) (fun a0 => (ex0_0 a0).bind F) := by
  simp only [groatref25_Join_s1, cond_bind, within_bind, none_bind, some_bind, sum_bind, bind_bind]
def groatref25_Join_s2 {R : Type} (t3 : ByteArray) (kr0 : ByteArray → Option R) : Option R :=
  (kr0 t3)
theorem groatref25_Join_s2_bind {R S : Type} (F : R → Option S) (t3 : ByteArray) (kr0 : ByteArray → Option R) : (groatref25_Join_s2 t3 kr0).bind F = groatref25_Join_s2 t3 (fun a0 => (kr0 a0).bind F) := by
  simp only [groatref25_Join_s2, cond_bind, within_bind, none_bind, some_bind, sum_bind, bind_bind]
def groatref25_Join_l0 : Nat → (List ByteArray) → ByteArray → Int → Option ByteArray
  | 0, _, _, _ => none
  | k + 1, v0, v1, v2 => groatref25_Join_s1 v0 v1 v2 (fun a0 a1 a2 => groatref25_Join_l0 k a0 a1 a2) (fun a0 => some a0)
def groatref25_Join (l_0 : (List ByteArray)) : Option ByteArray :=
  groatref25_Join_s0 l_0 (fun a0 a1 a2 => (groatref25_Join_l0 FUEL a0 a1 a2).bind fun e => groatref25_Join_s2 e (fun a0 => some a0))
end Groat

/- What all plain proofs lean on: whole numbers that wrap, texts as lists of bytes, loops over lists. -/
set_option linter.unusedVariables false
set_option linter.unusedSimpArgs false
namespace Groat
open Go Go.Ref

/-! ### Whole numbers -/
theorem fuel_eq : FUEL = 18446744073709551616 := by unfold FUEL; rfl
theorem maxLen_eq : maxLen = 9223372036854775807 := rfl
theorem i64_id {x : Int} (h1 : -9223372036854775808 ≤ x) (h2 : x ≤ 9223372036854775807) : IntKind.i64.wrap x = x := wrap64 h1 h2
theorem i64_nat {n : Nat} (h : n ≤ 9223372036854775807) : IntKind.i64.wrap (n : Int) = n := wrap64 (by omega) (by omega)
theorem i64_succ {j : Nat} (h : j < 9223372036854775807) : IntKind.i64.wrap ((j : Int) + 1) = ((j + 1 : Nat) : Int) := by
  rw [wrap64 (by omega) (by omega)]; rfl
theorem u64_mod (x : Int) : IntKind.u64.wrap x = x % 18446744073709551616 := by
  simp [IntKind.wrap, IntKind.signed, IntKind.bits]
theorem u8_mod (x : Int) : IntKind.u8.wrap x = x % 256 := by
  simp [IntKind.wrap, IntKind.signed, IntKind.bits]
theorem u64_id {x : Int} (h1 : 0 ≤ x) (h2 : x < 18446744073709551616) : IntKind.u64.wrap x = x := by rw [u64_mod]; omega
theorem u8_id {x : Int} (h1 : 0 ≤ x) (h2 : x < 256) : IntKind.u8.wrap x = x := by rw [u8_mod]; omega
theorem wf_i64 {n : Int} (h : Wf (.int .i64) n) : -9223372036854775808 ≤ n ∧ n ≤ 9223372036854775807 := by
  simp only [Wf, Lit.wf, IntKind.min, IntKind.max, IntKind.signed, IntKind.bits, Bool.and_eq_true, decide_eq_true_eq] at h
  simp at h
  exact h
theorem wf_u64 {n : Int} (h : Wf (.int .u64) n) : 0 ≤ n ∧ n < 18446744073709551616 := by
  simp only [Wf, Lit.wf, IntKind.min, IntKind.max, IntKind.signed, IntKind.bits, Bool.and_eq_true, decide_eq_true_eq] at h
  simp at h
  omega
theorem wf_u8 {n : Int} (h : Wf (.int .u8) n) : 0 ≤ n ∧ n < 256 := by
  simp only [Wf, Lit.wf, IntKind.min, IntKind.max, IntKind.signed, IntKind.bits, Bool.and_eq_true, decide_eq_true_eq] at h
  simp at h
  omega
theorem within_nat_lt {R : Type} {j n : Nat} {x : Option R} (h : j < n) : within (j : Int) n x = x := within_at h
theorem within_int {R : Type} {i : Int} {n : Nat} {x : Option R} (h0 : 0 ≤ i) (h : i < n) : within i n x = x := by
  unfold within
  rw [decide_eq_true h0, decide_eq_true h]; rfl
theorem within_some' {R : Type} {i : Int} {n : Nat} {x : Option R} : within i n x = if 0 ≤ i ∧ i < n then x else none := by
  unfold within
  by_cases h0 : 0 ≤ i
  · by_cases h1 : i < (n : Int)
    · rw [decide_eq_true h0, decide_eq_true h1, if_pos ⟨h0, h1⟩]; rfl
    · rw [decide_eq_true h0, decide_eq_false h1, if_neg (fun h => h1 h.2)]; rfl
  · rw [decide_eq_false h0, if_neg (fun h => h0 h.1)]; rfl
theorem bif_dec {R : Type} {p : Prop} [Decidable p] (x y : R) : (bif decide p then x else y) = if p then x else y := by
  by_cases h : p <;> simp [h]

/-! ### Texts as lists of bytes -/
def bl (s : ByteArray) : List Int := s.data.toList.map fun b => (b.toNat : Int)
theorem bl_inj {a b : ByteArray} (h : bl a = bl b) : a = b := by
  apply ByteArray.ext
  apply Array.ext'
  unfold bl at h
  have : Function.Injective (fun b : UInt8 => (b.toNat : Int)) := fun x y hxy => UInt8.toNat_inj.1 (Int.ofNat.inj hxy)
  exact (List.map_inj_right (fun x y h => this h)).1 h
theorem bl_eq {a b : ByteArray} : a = b ↔ bl a = bl b := ⟨fun h => by rw [h], bl_inj⟩
theorem bl_dec (a b : ByteArray) : decide (a = b) = decide (bl a = bl b) := decide_eq_decide.2 bl_eq
theorem bl_length (s : ByteArray) : (bl s).length = s.size := by unfold bl; rw [List.length_map]; rfl
theorem bl_append (a b : ByteArray) : bl (a ++ b) = bl a ++ bl b := by simp [bl, ByteArray.data_append]
theorem bl_extract (s : ByteArray) (i j : Nat) : bl (s.extract i j) = ((bl s).take j).drop i := by
  unfold bl
  rw [ByteArray.data_extract, Array.toList_extract, List.extract_eq_drop_take', List.map_drop, List.map_take]
theorem bl_byteAt (s : ByteArray) (i : Nat) : byteAt s i = (bl s).getD i 0 := by
  unfold byteAt bl
  split
  · rename_i h
    have h' : i < s.data.toList.length := h
    rw [List.getD_eq_getElem?_getD, List.getElem?_map, List.getElem?_eq_getElem h']
    rfl
  · rename_i h
    have h' : s.data.toList.length ≤ i := Nat.le_of_not_lt h
    rw [List.getD_eq_getElem?_getD, List.getElem?_eq_none (by simpa using h')]
    rfl
def isByte (n : Int) : Prop := 0 ≤ n ∧ n < 256
theorem bl_byte {s : ByteArray} {x : Int} (h : x ∈ bl s) : isByte x := by
  unfold bl at h
  obtain ⟨b, _, rfl⟩ := List.mem_map.1 h
  have := b.toNat_lt
  unfold isByte
  omega
theorem bl_strOf {xs : List Int} (h : ∀ x ∈ xs, isByte x) : bl (strOf xs) = xs := by
  simp only [bl, strOf, List.map_map]
  conv => rhs; rw [← List.map_id xs]
  apply List.map_congr_left
  intro x hx
  have := h x hx
  unfold isByte at this
  simp only [Function.comp, id]
  rw [UInt8.toNat_ofNat_of_lt' (by show x.toNat < 256; omega)]
  omega
theorem strOf_bl (s : ByteArray) : strOf (bl s) = s := bl_inj (bl_strOf fun x hx => bl_byte hx)
theorem bl_bs {l : List Nat} (h : ∀ x ∈ l, x < 256) : bl (bs l) = l.map (fun n : Nat => (n : Int)) := by
  simp only [bl, bs, List.map_map]
  apply List.map_congr_left
  intro x hx
  have := h x hx
  simp only [Function.comp]
  rw [UInt8.toNat_ofNat_of_lt' (by show x < 256; omega)]
theorem bl_empty : bl (bs []) = [] := rfl
theorem bl_nil_iff {s : ByteArray} : s = bs [] ↔ bl s = [] := by rw [bl_eq, bl_empty]
theorem strOf_size (xs : List Int) : (strOf xs).size = xs.length := by rw [← bl_length]; unfold bl strOf; simp

/-! ### Loops over lists -/
section
variable {α σ ρ : Type}
def runL (g : Nat → α → σ → (σ → Option ρ) → Option ρ) (fin : σ → Option ρ) : List α → Nat → σ → Option ρ
  | [], _, s => fin s
  | x :: r, j, s => g j x s fun s' => runL g fin r (j + 1) s'
theorem list_loop' (d : α) (xs : List α) (g : Nat → α → σ → (σ → Option ρ) → Option ρ) (fin : σ → Option ρ) (L : Nat → Int → σ → Option ρ)
    (step : ∀ k (j : Nat) s, j < xs.length → L (k + 1) j s = g j (xs.getD j d) s (fun s' => L k ((j + 1 : Nat) : Int) s'))
    (stop : ∀ k s, L (k + 1) (xs.length : Nat) s = fin s) : ∀ (m j k : Nat) (s : σ), j + m = xs.length → m < k → L k j s = runL g fin (xs.drop j) j s
  | 0, j, k, s, hj, hk => by
    obtain ⟨k, rfl⟩ : ∃ k', k = k' + 1 := ⟨k - 1, by omega⟩
    have : j = xs.length := by omega
    subst this
    rw [stop, List.drop_length]; rfl
  | m + 1, j, k, s, hj, hk => by
    obtain ⟨k, rfl⟩ : ∃ k', k = k' + 1 := ⟨k - 1, by omega⟩
    have hlt : j < xs.length := by omega
    rw [step k j s hlt, List.drop_eq_getElem_cons hlt, runL]
    have hx : xs.getD j d = xs[j] := by rw [List.getD_eq_getElem?_getD, List.getElem?_eq_getElem hlt]; rfl
    rw [hx]
    congr 1
    funext s'
    exact list_loop' d xs g fin L step stop m (j + 1) k s' (by omega) (by omega)
theorem list_loop (d : α) (xs : List α) (hlen : xs.length ≤ maxLen) (g : Nat → α → σ → (σ → Option ρ) → Option ρ) (fin : σ → Option ρ) (L : Nat → Int → σ → Option ρ)
    (step : ∀ k (j : Nat) s, j < xs.length → L (k + 1) j s = g j (xs.getD j d) s (fun s' => L k ((j + 1 : Nat) : Int) s'))
    (stop : ∀ k s, L (k + 1) (xs.length : Nat) s = fin s) (s : σ) : L FUEL 0 s = runL g fin xs 0 s := by
  have := list_loop' d xs g fin L step stop xs.length 0 FUEL s (by omega) (by rw [fuel_eq]; rw [maxLen_eq] at hlen; omega)
  simpa using this
/-- A loop by a count. -/
theorem count_loop (n : Nat) (g : Nat → σ → (σ → Option ρ) → Option ρ) (fin : σ → Option ρ) (L : Nat → Nat → σ → Option ρ)
    (step : ∀ k (j : Nat) s, j < n → L (k + 1) j s = g j s (fun s' => L k (j + 1) s'))
    (stop : ∀ k s, L (k + 1) n s = fin s) : ∀ (m j k : Nat) (s : σ), j + m = n → m < k → L k j s = runL (fun j _ s K => g j s K) fin (List.replicate m ()) j s
  | 0, j, k, s, hj, hk => by
    obtain ⟨k, rfl⟩ : ∃ k', k = k' + 1 := ⟨k - 1, by omega⟩
    have : j = n := by omega
    subst this
    rw [stop]; rfl
  | m + 1, j, k, s, hj, hk => by
    obtain ⟨k, rfl⟩ : ∃ k', k = k' + 1 := ⟨k - 1, by omega⟩
    rw [step k j s (by omega), List.replicate_succ, runL]
    congr 1
    funext s'
    exact count_loop n g fin L step stop m (j + 1) k s' (by omega) (by omega)
end
end Groat
namespace Groat
open Go Go.Ref
/-! ### Loops over lists, by what the printed loops are -/
section
variable {α σ ρ : Type}
def runI (g : Int → α → σ → (σ → Option ρ) → Option ρ) (fin : σ → Option ρ) : List α → Int → σ → Option ρ
  | [], _, s => fin s
  | x :: r, i, s => g i x s fun s' => runI g fin r (i + 1) s'
theorem loopI' (d : α) (xs : List α) (hlen : xs.length ≤ 9223372036854775807) (g : Int → α → σ → (σ → Option ρ) → Option ρ) (fin : σ → Option ρ) (L : Nat → Int → σ → Option ρ)
    (step : ∀ k (i : Int) s, L (k + 1) i s = bif decide (i < (xs.length : Int)) then within i xs.length (g i (xs.getD i.toNat d) s fun s' => L k (IntKind.i64.wrap (i + 1)) s') else fin s) :
    ∀ (m j k : Nat) (s : σ), j + m = xs.length → m < k → L k j s = runI g fin (xs.drop j) j s
  | 0, j, k, s, hj, hk => by
    obtain ⟨k, rfl⟩ : ∃ k', k = k' + 1 := ⟨k - 1, by omega⟩
    rw [step, decide_eq_false (by omega), List.drop_eq_nil_of_le (by omega)]; rfl
  | m + 1, j, k, s, hj, hk => by
    obtain ⟨k, rfl⟩ : ∃ k', k = k' + 1 := ⟨k - 1, by omega⟩
    have hlt : j < xs.length := by omega
    rw [step, decide_eq_true (by omega), cond_true, within_nat_lt hlt, List.drop_eq_getElem_cons hlt, runI]
    have hx : xs.getD ((j : Int)).toNat d = xs[j] := by rw [Int.toNat_natCast, List.getD_eq_getElem?_getD, List.getElem?_eq_getElem hlt]; rfl
    rw [hx]
    congr 1
    funext s'
    rw [i64_succ (by omega), loopI' d xs hlen g fin L step m (j + 1) k s' (by omega) (by omega)]
    rfl
theorem loopI (d : α) (xs : List α) (hlen : xs.length ≤ maxLen) (g : Int → α → σ → (σ → Option ρ) → Option ρ) (fin : σ → Option ρ) (L : Nat → Int → σ → Option ρ)
    (step : ∀ k (i : Int) s, L (k + 1) i s = bif decide (i < (xs.length : Int)) then within i xs.length (g i (xs.getD i.toNat d) s fun s' => L k (IntKind.i64.wrap (i + 1)) s') else fin s) (s : σ) : L FUEL 0 s = runI g fin xs 0 s := by
  rw [maxLen_eq] at hlen
  have := loopI' d xs hlen g fin L step xs.length 0 FUEL s (by omega) (by rw [fuel_eq]; omega)
  rw [List.drop_zero] at this
  exact this
/-- A round may look at its element more than once. -/
theorem loopJ' (d : α) (xs : List α) (hlen : xs.length ≤ 9223372036854775807) (g : Int → α → σ → (σ → Option ρ) → Option ρ) (fin : σ → Option ρ) (L : Nat → Int → σ → Option ρ)
    (step : ∀ k (i : Int) s, 0 ≤ i → i < (xs.length : Int) → L (k + 1) i s = g i (xs.getD i.toNat d) s fun s' => L k (IntKind.i64.wrap (i + 1)) s') (stop : ∀ k s, L (k + 1) (xs.length : Int) s = fin s) :
    ∀ (m j k : Nat) (s : σ), j + m = xs.length → m < k → L k j s = runI g fin (xs.drop j) j s
  | 0, j, k, s, hj, hk => by
    obtain ⟨k, rfl⟩ : ∃ k', k = k' + 1 := ⟨k - 1, by omega⟩
    have : j = xs.length := by omega
    subst this
    rw [stop, List.drop_length]; rfl
  | m + 1, j, k, s, hj, hk => by
    obtain ⟨k, rfl⟩ : ∃ k', k = k' + 1 := ⟨k - 1, by omega⟩
    have hlt : j < xs.length := by omega
    rw [step k j s (by omega) (by omega), List.drop_eq_getElem_cons hlt, runI]
    have hx : xs.getD ((j : Int)).toNat d = xs[j] := by rw [Int.toNat_natCast, List.getD_eq_getElem?_getD, List.getElem?_eq_getElem hlt]; rfl
    rw [hx]
    congr 1
    funext s'
    rw [i64_succ (by omega), loopJ' d xs hlen g fin L step stop m (j + 1) k s' (by omega) (by omega)]
    rfl
theorem loopJ (d : α) (xs : List α) (hlen : xs.length ≤ maxLen) (g : Int → α → σ → (σ → Option ρ) → Option ρ) (fin : σ → Option ρ) (L : Nat → Int → σ → Option ρ)
    (step : ∀ k (i : Int) s, 0 ≤ i → i < (xs.length : Int) → L (k + 1) i s = g i (xs.getD i.toNat d) s fun s' => L k (IntKind.i64.wrap (i + 1)) s') (stop : ∀ k s, L (k + 1) (xs.length : Int) s = fin s) (s : σ) : L FUEL 0 s = runI g fin xs 0 s := by
  rw [maxLen_eq] at hlen
  have := loopJ' d xs hlen g fin L step stop xs.length 0 FUEL s (by omega) (by rw [fuel_eq]; omega)
  rw [List.drop_zero] at this
  exact this
end
end Groat

/- How many bits of 64 are set, and how many lead: what the library's functions compute. -/
set_option linter.unusedVariables false
set_option linter.unusedSimpArgs false
set_option maxRecDepth 100000
namespace Groat
open Go Go.Ref

theorem ofInt_nat' (n a : Nat) (h : a < 2 ^ n) : (BitVec.ofInt n (a : Int)).toNat = a := by
  rw [BitVec.toNat_ofInt]
  have h2 : ((a : Int) % ((2 ^ n : Nat) : Int)) = ((a % 2 ^ n : Nat) : Int) := by rfl
  rw [h2, Int.toNat_natCast, Nat.mod_eq_of_lt h]
theorem u64_nat {a : Nat} (h : a < 18446744073709551616) : IntKind.u64.wrap (a : Int) = a := u64_id (by omega) (by omega)
theorem and64 {a b : Nat} (ha : a < 18446744073709551616) (hb : b < 18446744073709551616) : ibits .and .u64 a b = ((a &&& b : Nat) : Int) := by
  simp only [ibits, BitVec.toNat_and, ofInt_nat' IntKind.u64.bits a ha, ofInt_nat' IntKind.u64.bits b hb]
  exact u64_nat (Nat.lt_of_le_of_lt Nat.and_le_left ha)
theorem or64 {a b : Nat} (ha : a < 18446744073709551616) (hb : b < 18446744073709551616) : ibits .or .u64 a b = ((a ||| b : Nat) : Int) := by
  simp only [ibits, BitVec.toNat_or, ofInt_nat' IntKind.u64.bits a ha, ofInt_nat' IntKind.u64.bits b hb]
  exact u64_nat (Nat.or_lt_two_pow (n := 64) ha hb)
theorem andNot64 {a b : Nat} (ha : a < 18446744073709551616) (hb : b < 18446744073709551616) : ibits .andNot .u64 a b = ((a &&& (18446744073709551615 - b) : Nat) : Int) := by
  simp only [ibits, BitVec.toNat_and, BitVec.toNat_not, ofInt_nat' IntKind.u64.bits a ha, ofInt_nat' IntKind.u64.bits b hb]
  have : 2 ^ IntKind.u64.bits - 1 - b = 18446744073709551615 - b := rfl
  rw [this]
  exact u64_nat (Nat.lt_of_le_of_lt Nat.and_le_left ha)
theorem and_i64 {a b : Nat} (ha : a < 9223372036854775808) (hb : b < 9223372036854775808) : ibits .and .i64 a b = ((a &&& b : Nat) : Int) := by
  simp only [ibits, BitVec.toNat_and, ofInt_nat' IntKind.i64.bits a (Nat.lt_trans ha (by decide)), ofInt_nat' IntKind.i64.bits b (Nat.lt_trans hb (by decide))]
  have := Nat.lt_of_le_of_lt (Nat.and_le_left (n := a) (m := b)) ha
  exact i64_nat (by omega)
theorem fdiv_nat (a : Nat) (k : Nat) (hk : k ≤ 64) : Int.fdiv (a : Int) (2 ^ min ((k : Int)).toNat 64) = ((a / 2 ^ k : Nat) : Int) := by
  rw [Int.fdiv_eq_ediv_of_nonneg _ (Int.pow_nonneg (by decide)), Int.toNat_natCast, Nat.min_eq_left hk]
  rfl

/-! ### Eight bytes -/
@[irreducible] def by8 (c0 c1 c2 c3 c4 c5 c6 c7 : Nat) : Nat := c0 + 256 * (c1 + 256 * (c2 + 256 * (c3 + 256 * (c4 + 256 * (c5 + 256 * (c6 + 256 * c7))))))
theorem and_byte {a b r s : Nat} (ha : a < 256) (hb : b < 256) : (a + 256 * r) &&& (b + 256 * s) = (a &&& b) + 256 * (r &&& s) := by
  have hab : a &&& b < 256 := Nat.lt_of_le_of_lt Nat.and_le_left ha
  apply Nat.eq_of_testBit_eq
  intro i
  have e1 : a + 256 * r = 2 ^ 8 * r + a := by omega
  have e2 : b + 256 * s = 2 ^ 8 * s + b := by omega
  have e3 : (a &&& b) + 256 * (r &&& s) = 2 ^ 8 * (r &&& s) + (a &&& b) := by omega
  rw [Nat.testBit_and, e1, e2, e3, Nat.testBit_two_pow_mul_add _ ha, Nat.testBit_two_pow_mul_add _ hb, Nat.testBit_two_pow_mul_add _ hab]
  by_cases h : i < 8
  · simp [h, Nat.testBit_and]
  · simp [h, Nat.testBit_and]
theorem and8 {a0 a1 a2 a3 a4 a5 a6 a7 m : Nat} (h0 : a0 < 256) (h1 : a1 < 256) (h2 : a2 < 256) (h3 : a3 < 256) (h4 : a4 < 256) (h5 : a5 < 256) (h6 : a6 < 256) (hm : m < 256) :
    by8 a0 a1 a2 a3 a4 a5 a6 a7 &&& by8 m m m m m m m m = by8 (a0 &&& m) (a1 &&& m) (a2 &&& m) (a3 &&& m) (a4 &&& m) (a5 &&& m) (a6 &&& m) (a7 &&& m) := by
  unfold by8
  rw [and_byte h0 hm, and_byte h1 hm, and_byte h2 hm, and_byte h3 hm, and_byte h4 hm, and_byte h5 hm, and_byte h6 hm]
def bY (c : Nat) : Nat := ((c / 2) &&& 85) + (c &&& 85)
def bZ (c : Nat) : Nat := ((bY c / 4) &&& 51) + (bY c &&& 51)
def bP (c : Nat) : Nat := (bZ c + bZ c / 16) &&& 15
theorem byte_facts : ∀ c : Fin 256, bY c ≤ 170 ∧ bZ c ≤ 68 ∧ bP c ≤ 8 ∧ bZ c % 16 ≤ 4 ∧ (∀ b : Fin 2, (c.1 / 2 + 128 * b.1) &&& 85 = (c.1 / 2) &&& 85) ∧ (∀ b : Fin 4, (bY c / 4 + 64 * b.1) &&& 51 = (bY c / 4) &&& 51) ∧ (∀ b : Fin 5, (bZ c + bZ c / 16 + 16 * b.1) &&& 15 = bP c) := by
  decide +kernel
theorem bP_count : ∀ c : Fin 256, bP c = (List.range 8).countP (fun i => Nat.testBit c.1 i) := by decide +kernel
theorem sh1 (c b : Nat) (hc : c < 256) (hb : b < 2) : (c / 2 + 128 * b) &&& 85 = (c / 2) &&& 85 := (byte_facts ⟨c, hc⟩).2.2.2.2.1 ⟨b, hb⟩
theorem sh2 (c b : Nat) (hc : c < 256) (hb : b < 4) : (bY c / 4 + 64 * b) &&& 51 = (bY c / 4) &&& 51 := (byte_facts ⟨c, hc⟩).2.2.2.2.2.1 ⟨b, hb⟩
theorem sh4 (c b : Nat) (hc : c < 256) (hb : b < 5) : (bZ c + bZ c / 16 + 16 * b) &&& 15 = bP c := (byte_facts ⟨c, hc⟩).2.2.2.2.2.2 ⟨b, hb⟩
theorem bY_le (c : Nat) (hc : c < 256) : bY c ≤ 170 := (byte_facts ⟨c, hc⟩).1
theorem bZ_le (c : Nat) (hc : c < 256) : bZ c ≤ 68 ∧ bZ c % 16 ≤ 4 := ⟨(byte_facts ⟨c, hc⟩).2.1, (byte_facts ⟨c, hc⟩).2.2.2.1⟩
theorem bP_le (c : Nat) (hc : c < 256) : bP c ≤ 8 := (byte_facts ⟨c, hc⟩).2.2.1
theorem m0_eq : 6148914691236517205 = by8 85 85 85 85 85 85 85 85 := by unfold by8; decide
theorem m1_eq : 3689348814741910323 = by8 51 51 51 51 51 51 51 51 := by unfold by8; decide
theorem m2_eq : 1085102592571150095 = by8 15 15 15 15 15 15 15 15 := by unfold by8; decide
section
variable {c0 c1 c2 c3 c4 c5 c6 c7 : Nat}
theorem oc_1 (h0 : c0 < 256) (h1 : c1 < 256) (h2 : c2 < 256) (h3 : c3 < 256) (h4 : c4 < 256) (h5 : c5 < 256) (h6 : c6 < 256) (h7 : c7 < 256) :
    ((by8 c0 c1 c2 c3 c4 c5 c6 c7 / 2) &&& 6148914691236517205) + (by8 c0 c1 c2 c3 c4 c5 c6 c7 &&& 6148914691236517205) = by8 (bY c0) (bY c1) (bY c2) (bY c3) (bY c4) (bY c5) (bY c6) (bY c7) := by
  have hs : by8 c0 c1 c2 c3 c4 c5 c6 c7 / 2 = by8 (c0 / 2 + 128 * (c1 % 2)) (c1 / 2 + 128 * (c2 % 2)) (c2 / 2 + 128 * (c3 % 2)) (c3 / 2 + 128 * (c4 % 2)) (c4 / 2 + 128 * (c5 % 2)) (c5 / 2 + 128 * (c6 % 2)) (c6 / 2 + 128 * (c7 % 2)) (c7 / 2 + 128 * 0) := by
    unfold by8; omega
  rw [hs, m0_eq, and8 (by omega) (by omega) (by omega) (by omega) (by omega) (by omega) (by omega) (by omega), and8 h0 h1 h2 h3 h4 h5 h6 (by omega),
    sh1 _ _ h0 (by omega), sh1 _ _ h1 (by omega), sh1 _ _ h2 (by omega), sh1 _ _ h3 (by omega), sh1 _ _ h4 (by omega), sh1 _ _ h5 (by omega), sh1 _ _ h6 (by omega), sh1 _ _ h7 (by omega)]
  unfold by8 bY
  omega
theorem oc_2 (h0 : c0 < 256) (h1 : c1 < 256) (h2 : c2 < 256) (h3 : c3 < 256) (h4 : c4 < 256) (h5 : c5 < 256) (h6 : c6 < 256) (h7 : c7 < 256) :
    ((by8 (bY c0) (bY c1) (bY c2) (bY c3) (bY c4) (bY c5) (bY c6) (bY c7) / 4) &&& 3689348814741910323) + (by8 (bY c0) (bY c1) (bY c2) (bY c3) (bY c4) (bY c5) (bY c6) (bY c7) &&& 3689348814741910323) = by8 (bZ c0) (bZ c1) (bZ c2) (bZ c3) (bZ c4) (bZ c5) (bZ c6) (bZ c7) := by
  have g0 := bY_le c0 h0; have g1 := bY_le c1 h1; have g2 := bY_le c2 h2; have g3 := bY_le c3 h3; have g4 := bY_le c4 h4; have g5 := bY_le c5 h5; have g6 := bY_le c6 h6; have g7 := bY_le c7 h7
  have hs : by8 (bY c0) (bY c1) (bY c2) (bY c3) (bY c4) (bY c5) (bY c6) (bY c7) / 4 = by8 (bY c0 / 4 + 64 * (bY c1 % 4)) (bY c1 / 4 + 64 * (bY c2 % 4)) (bY c2 / 4 + 64 * (bY c3 % 4)) (bY c3 / 4 + 64 * (bY c4 % 4)) (bY c4 / 4 + 64 * (bY c5 % 4)) (bY c5 / 4 + 64 * (bY c6 % 4)) (bY c6 / 4 + 64 * (bY c7 % 4)) (bY c7 / 4 + 64 * 0) := by
    unfold by8; omega
  rw [hs, m1_eq, and8 (by omega) (by omega) (by omega) (by omega) (by omega) (by omega) (by omega) (by omega), and8 (by omega) (by omega) (by omega) (by omega) (by omega) (by omega) (by omega) (by omega),
    sh2 _ _ h0 (by omega), sh2 _ _ h1 (by omega), sh2 _ _ h2 (by omega), sh2 _ _ h3 (by omega), sh2 _ _ h4 (by omega), sh2 _ _ h5 (by omega), sh2 _ _ h6 (by omega), sh2 _ _ h7 (by omega)]
  unfold by8 bZ
  omega
theorem oc_3 (h0 : c0 < 256) (h1 : c1 < 256) (h2 : c2 < 256) (h3 : c3 < 256) (h4 : c4 < 256) (h5 : c5 < 256) (h6 : c6 < 256) (h7 : c7 < 256) :
    (by8 (bZ c0) (bZ c1) (bZ c2) (bZ c3) (bZ c4) (bZ c5) (bZ c6) (bZ c7) / 16 + by8 (bZ c0) (bZ c1) (bZ c2) (bZ c3) (bZ c4) (bZ c5) (bZ c6) (bZ c7)) &&& 1085102592571150095 = by8 (bP c0) (bP c1) (bP c2) (bP c3) (bP c4) (bP c5) (bP c6) (bP c7) := by
  have g0 := bZ_le c0 h0; have g1 := bZ_le c1 h1; have g2 := bZ_le c2 h2; have g3 := bZ_le c3 h3; have g4 := bZ_le c4 h4; have g5 := bZ_le c5 h5; have g6 := bZ_le c6 h6; have g7 := bZ_le c7 h7
  have hs : by8 (bZ c0) (bZ c1) (bZ c2) (bZ c3) (bZ c4) (bZ c5) (bZ c6) (bZ c7) / 16 + by8 (bZ c0) (bZ c1) (bZ c2) (bZ c3) (bZ c4) (bZ c5) (bZ c6) (bZ c7) =
      by8 (bZ c0 + bZ c0 / 16 + 16 * (bZ c1 % 16)) (bZ c1 + bZ c1 / 16 + 16 * (bZ c2 % 16)) (bZ c2 + bZ c2 / 16 + 16 * (bZ c3 % 16)) (bZ c3 + bZ c3 / 16 + 16 * (bZ c4 % 16)) (bZ c4 + bZ c4 / 16 + 16 * (bZ c5 % 16)) (bZ c5 + bZ c5 / 16 + 16 * (bZ c6 % 16)) (bZ c6 + bZ c6 / 16 + 16 * (bZ c7 % 16)) (bZ c7 + bZ c7 / 16 + 16 * 0) := by
    unfold by8; omega
  rw [hs, m2_eq, and8 (by omega) (by omega) (by omega) (by omega) (by omega) (by omega) (by omega) (by omega),
    sh4 _ _ h0 (by omega), sh4 _ _ h1 (by omega), sh4 _ _ h2 (by omega), sh4 _ _ h3 (by omega), sh4 _ _ h4 (by omega), sh4 _ _ h5 (by omega), sh4 _ _ h6 (by omega), sh4 _ _ h7 (by omega)]
end
def popc (x : Nat) : Nat := bP (x % 256) + bP (x / 256 % 256) + bP (x / 65536 % 256) + bP (x / 16777216 % 256) + bP (x / 4294967296 % 256) + bP (x / 1099511627776 % 256) + bP (x / 281474976710656 % 256) + bP (x / 72057594037927936)
def ocI1 (x : Int) : Int := IntKind.u64.wrap (ibits .and .u64 (Int.fdiv x (2 ^ min ((1 : Int)).toNat 64)) (6148914691236517205 : Int) + ibits .and .u64 x (6148914691236517205 : Int))
def ocI2 (x : Int) : Int := IntKind.u64.wrap (ibits .and .u64 (Int.fdiv x (2 ^ min ((2 : Int)).toNat 64)) (3689348814741910323 : Int) + ibits .and .u64 x (3689348814741910323 : Int))
def ocI3 (x : Int) : Int := ibits .and .u64 (IntKind.u64.wrap (Int.fdiv x (2 ^ min ((4 : Int)).toNat 64) + x)) (1085102592571150095 : Int)
def ocI4 (x : Int) : Int := IntKind.u64.wrap (x + Int.fdiv x (2 ^ min ((8 : Int)).toNat 64))
def ocI5 (x : Int) : Int := IntKind.u64.wrap (x + Int.fdiv x (2 ^ min ((16 : Int)).toNat 64))
def ocI6 (x : Int) : Int := IntKind.u64.wrap (x + Int.fdiv x (2 ^ min ((32 : Int)).toNat 64))
theorem oc_unfold (x : Int) : math_bits_OnesCount64 x = some (ibits .and .i64 (IntKind.i64.wrap (ocI6 (ocI5 (ocI4 (ocI3 (ocI2 (ocI1 x))))))) 127) := rfl
theorem by8_split (x : Nat) (hx : x < 18446744073709551616) : x = by8 (x % 256) (x / 256 % 256) (x / 65536 % 256) (x / 16777216 % 256) (x / 4294967296 % 256) (x / 1099511627776 % 256) (x / 281474976710656 % 256) (x / 72057594037927936) := by
  unfold by8
  have e1 : x = x % 256 + 256 * (x / 256) := by omega
  have e2 : x / 256 = x / 256 % 256 + 256 * (x / 65536) := by omega
  have e3 : x / 65536 = x / 65536 % 256 + 256 * (x / 16777216) := by omega
  have e4 : x / 16777216 = x / 16777216 % 256 + 256 * (x / 4294967296) := by omega
  have e5 : x / 4294967296 = x / 4294967296 % 256 + 256 * (x / 1099511627776) := by omega
  have e6 : x / 1099511627776 = x / 1099511627776 % 256 + 256 * (x / 281474976710656) := by omega
  have e7 : x / 281474976710656 = x / 281474976710656 % 256 + 256 * (x / 72057594037927936) := by omega
  rw [← e7, ← e6, ← e5, ← e4, ← e3, ← e2, ← e1]
theorem oc_a4 (p0 p1 p2 p3 p4 p5 p6 p7 : Nat) (g0 : p0 ≤ 8) (g1 : p1 ≤ 8) (g2 : p2 ≤ 8) (g3 : p3 ≤ 8) (g4 : p4 ≤ 8) (g5 : p5 ≤ 8) (g6 : p6 ≤ 8) (g7 : p7 ≤ 8) : ocI4 ((by8 p0 p1 p2 p3 p4 p5 p6 p7 : Nat) : Int) = ((by8 (p0 + p1) (p1 + p2) (p2 + p3) (p3 + p4) (p4 + p5) (p5 + p6) (p6 + p7) p7 : Nat) : Int) := by
  unfold ocI4
  have := fdiv_nat (by8 p0 p1 p2 p3 p4 p5 p6 p7) 8 (by omega)
  rw [show ((8 : Nat) : Int) = 8 from rfl] at this
  rw [this, ← Int.natCast_add, show 2 ^ 8 = 256 from rfl]
  have : by8 p0 p1 p2 p3 p4 p5 p6 p7 + by8 p0 p1 p2 p3 p4 p5 p6 p7 / 256 = by8 (p0 + p1) (p1 + p2) (p2 + p3) (p3 + p4) (p4 + p5) (p5 + p6) (p6 + p7) p7 := by unfold by8; omega
  rw [this]
  exact u64_nat (by unfold by8; omega)
theorem oc_a5 (p0 p1 p2 p3 p4 p5 p6 p7 : Nat) (g0 : p0 ≤ 8) (g1 : p1 ≤ 8) (g2 : p2 ≤ 8) (g3 : p3 ≤ 8) (g4 : p4 ≤ 8) (g5 : p5 ≤ 8) (g6 : p6 ≤ 8) (g7 : p7 ≤ 8) : ocI5 ((by8 (p0 + p1) (p1 + p2) (p2 + p3) (p3 + p4) (p4 + p5) (p5 + p6) (p6 + p7) p7 : Nat) : Int) = ((by8 (p0 + p1 + p2 + p3) (p1 + p2 + p3 + p4) (p2 + p3 + p4 + p5) (p3 + p4 + p5 + p6) (p4 + p5 + p6 + p7) (p5 + p6 + p7) (p6 + p7) p7 : Nat) : Int) := by
  unfold ocI5
  have := fdiv_nat (by8 (p0 + p1) (p1 + p2) (p2 + p3) (p3 + p4) (p4 + p5) (p5 + p6) (p6 + p7) p7) 16 (by omega)
  rw [show ((16 : Nat) : Int) = 16 from rfl] at this
  rw [this, ← Int.natCast_add, show 2 ^ 16 = 65536 from rfl]
  have : by8 (p0 + p1) (p1 + p2) (p2 + p3) (p3 + p4) (p4 + p5) (p5 + p6) (p6 + p7) p7 + by8 (p0 + p1) (p1 + p2) (p2 + p3) (p3 + p4) (p4 + p5) (p5 + p6) (p6 + p7) p7 / 65536 = by8 (p0 + p1 + p2 + p3) (p1 + p2 + p3 + p4) (p2 + p3 + p4 + p5) (p3 + p4 + p5 + p6) (p4 + p5 + p6 + p7) (p5 + p6 + p7) (p6 + p7) p7 := by unfold by8; omega
  rw [this]
  exact u64_nat (by unfold by8; omega)
theorem oc_a6 (p0 p1 p2 p3 p4 p5 p6 p7 : Nat) (g0 : p0 ≤ 8) (g1 : p1 ≤ 8) (g2 : p2 ≤ 8) (g3 : p3 ≤ 8) (g4 : p4 ≤ 8) (g5 : p5 ≤ 8) (g6 : p6 ≤ 8) (g7 : p7 ≤ 8) : ocI6 ((by8 (p0 + p1 + p2 + p3) (p1 + p2 + p3 + p4) (p2 + p3 + p4 + p5) (p3 + p4 + p5 + p6) (p4 + p5 + p6 + p7) (p5 + p6 + p7) (p6 + p7) p7 : Nat) : Int) = ((by8 (p0 + p1 + p2 + p3 + p4 + p5 + p6 + p7) (p1 + p2 + p3 + p4 + p5 + p6 + p7) (p2 + p3 + p4 + p5 + p6 + p7) (p3 + p4 + p5 + p6 + p7) (p4 + p5 + p6 + p7) (p5 + p6 + p7) (p6 + p7) p7 : Nat) : Int) := by
  unfold ocI6
  have := fdiv_nat (by8 (p0 + p1 + p2 + p3) (p1 + p2 + p3 + p4) (p2 + p3 + p4 + p5) (p3 + p4 + p5 + p6) (p4 + p5 + p6 + p7) (p5 + p6 + p7) (p6 + p7) p7) 32 (by omega)
  rw [show ((32 : Nat) : Int) = 32 from rfl] at this
  rw [this, ← Int.natCast_add, show 2 ^ 32 = 4294967296 from rfl]
  have : by8 (p0 + p1 + p2 + p3) (p1 + p2 + p3 + p4) (p2 + p3 + p4 + p5) (p3 + p4 + p5 + p6) (p4 + p5 + p6 + p7) (p5 + p6 + p7) (p6 + p7) p7 + by8 (p0 + p1 + p2 + p3) (p1 + p2 + p3 + p4) (p2 + p3 + p4 + p5) (p3 + p4 + p5 + p6) (p4 + p5 + p6 + p7) (p5 + p6 + p7) (p6 + p7) p7 / 4294967296 = by8 (p0 + p1 + p2 + p3 + p4 + p5 + p6 + p7) (p1 + p2 + p3 + p4 + p5 + p6 + p7) (p2 + p3 + p4 + p5 + p6 + p7) (p3 + p4 + p5 + p6 + p7) (p4 + p5 + p6 + p7) (p5 + p6 + p7) (p6 + p7) p7 := by unfold by8; omega
  rw [this]
  exact u64_nat (by unfold by8; omega)
theorem oc_lt (p0 p1 p2 p3 p4 p5 p6 p7 : Nat) (g0 : p0 ≤ 8) (g1 : p1 ≤ 8) (g2 : p2 ≤ 8) (g3 : p3 ≤ 8) (g4 : p4 ≤ 8) (g5 : p5 ≤ 8) (g6 : p6 ≤ 8) (g7 : p7 ≤ 8) : by8 (p0 + p1 + p2 + p3 + p4 + p5 + p6 + p7) (p1 + p2 + p3 + p4 + p5 + p6 + p7) (p2 + p3 + p4 + p5 + p6 + p7) (p3 + p4 + p5 + p6 + p7) (p4 + p5 + p6 + p7) (p5 + p6 + p7) (p6 + p7) p7 < 9223372036854775808 := by unfold by8; omega
theorem oc_last (p0 p1 p2 p3 p4 p5 p6 p7 : Nat) (g0 : p0 ≤ 8) (g1 : p1 ≤ 8) (g2 : p2 ≤ 8) (g3 : p3 ≤ 8) (g4 : p4 ≤ 8) (g5 : p5 ≤ 8) (g6 : p6 ≤ 8) (g7 : p7 ≤ 8) : by8 (p0 + p1 + p2 + p3 + p4 + p5 + p6 + p7) (p1 + p2 + p3 + p4 + p5 + p6 + p7) (p2 + p3 + p4 + p5 + p6 + p7) (p3 + p4 + p5 + p6 + p7) (p4 + p5 + p6 + p7) (p5 + p6 + p7) (p6 + p7) p7 % 128 = p0 + p1 + p2 + p3 + p4 + p5 + p6 + p7 := by unfold by8; omega
theorem oc_end (p0 p1 p2 p3 p4 p5 p6 p7 : Nat) (g0 : p0 ≤ 8) (g1 : p1 ≤ 8) (g2 : p2 ≤ 8) (g3 : p3 ≤ 8) (g4 : p4 ≤ 8) (g5 : p5 ≤ 8) (g6 : p6 ≤ 8) (g7 : p7 ≤ 8) : ibits .and .i64 (IntKind.i64.wrap (ocI6 (ocI5 (ocI4 ((by8 p0 p1 p2 p3 p4 p5 p6 p7 : Nat) : Int))))) 127 = ((p0 + p1 + p2 + p3 + p4 + p5 + p6 + p7 : Nat) : Int) := by
  rw [oc_a4 p0 p1 p2 p3 p4 p5 p6 p7 g0 g1 g2 g3 g4 g5 g6 g7, oc_a5 p0 p1 p2 p3 p4 p5 p6 p7 g0 g1 g2 g3 g4 g5 g6 g7, oc_a6 p0 p1 p2 p3 p4 p5 p6 p7 g0 g1 g2 g3 g4 g5 g6 g7]
  have h1 := oc_lt p0 p1 p2 p3 p4 p5 p6 p7 g0 g1 g2 g3 g4 g5 g6 g7
  have h2 := oc_last p0 p1 p2 p3 p4 p5 p6 p7 g0 g1 g2 g3 g4 g5 g6 g7
  generalize by8 (p0 + p1 + p2 + p3 + p4 + p5 + p6 + p7) (p1 + p2 + p3 + p4 + p5 + p6 + p7) (p2 + p3 + p4 + p5 + p6 + p7) (p3 + p4 + p5 + p6 + p7) (p4 + p5 + p6 + p7) (p5 + p6 + p7) (p6 + p7) p7 = w at h1 h2 ⊢
  rw [i64_nat (by omega), show (127 : Int) = ((127 : Nat) : Int) from rfl, and_i64 h1 (by omega), show 127 = 2 ^ 7 - 1 from rfl, Nat.and_two_pow_sub_one_eq_mod, show 2 ^ 7 = 128 from rfl, h2]
theorem OnesCount_by8 (x c0 c1 c2 c3 c4 c5 c6 c7 : Nat) (hx : x < 18446744073709551616) (hc : x = by8 c0 c1 c2 c3 c4 c5 c6 c7) (h0 : c0 < 256) (h1 : c1 < 256) (h2 : c2 < 256) (h3 : c3 < 256) (h4 : c4 < 256) (h5 : c5 < 256) (h6 : c6 < 256) (h7 : c7 < 256) :
    math_bits_OnesCount64 x = some ((bP c0 + bP c1 + bP c2 + bP c3 + bP c4 + bP c5 + bP c6 + bP c7 : Nat) : Int) := by
  rw [oc_unfold]
  have s1 : ocI1 (x : Int) = ((by8 (bY c0) (bY c1) (bY c2) (bY c3) (bY c4) (bY c5) (bY c6) (bY c7) : Nat) : Int) := by
    unfold ocI1
    have := fdiv_nat x 1 (by omega)
    rw [show ((1 : Nat) : Int) = 1 from rfl] at this
    rw [this, show (6148914691236517205 : Int) = ((6148914691236517205 : Nat) : Int) from rfl, and64 (by omega) (by omega), and64 hx (by omega), ← Int.natCast_add, show 2 ^ 1 = 2 from rfl, hc, oc_1 h0 h1 h2 h3 h4 h5 h6 h7]
    have g0 := bY_le c0 h0; have g1 := bY_le c1 h1; have g2 := bY_le c2 h2; have g3 := bY_le c3 h3; have g4 := bY_le c4 h4; have g5 := bY_le c5 h5; have g6 := bY_le c6 h6; have g7 := bY_le c7 h7
    exact u64_nat (by unfold by8; omega)
  have lY : by8 (bY c0) (bY c1) (bY c2) (bY c3) (bY c4) (bY c5) (bY c6) (bY c7) < 18446744073709551616 := by
    have g0 := bY_le c0 h0; have g1 := bY_le c1 h1; have g2 := bY_le c2 h2; have g3 := bY_le c3 h3; have g4 := bY_le c4 h4; have g5 := bY_le c5 h5; have g6 := bY_le c6 h6; have g7 := bY_le c7 h7
    unfold by8; omega
  have lZ : by8 (bZ c0) (bZ c1) (bZ c2) (bZ c3) (bZ c4) (bZ c5) (bZ c6) (bZ c7) < 5000000000000000000 := by
    have g0 := bZ_le c0 h0; have g1 := bZ_le c1 h1; have g2 := bZ_le c2 h2; have g3 := bZ_le c3 h3; have g4 := bZ_le c4 h4; have g5 := bZ_le c5 h5; have g6 := bZ_le c6 h6; have g7 := bZ_le c7 h7
    unfold by8; omega
  have s2 : ocI2 (ocI1 (x : Int)) = ((by8 (bZ c0) (bZ c1) (bZ c2) (bZ c3) (bZ c4) (bZ c5) (bZ c6) (bZ c7) : Nat) : Int) := by
    rw [s1]
    unfold ocI2
    have := fdiv_nat (by8 (bY c0) (bY c1) (bY c2) (bY c3) (bY c4) (bY c5) (bY c6) (bY c7)) 2 (by omega)
    rw [show ((2 : Nat) : Int) = 2 from rfl] at this
    rw [this, show (3689348814741910323 : Int) = ((3689348814741910323 : Nat) : Int) from rfl, and64 (by omega) (by omega), and64 lY (by omega), ← Int.natCast_add, show 2 ^ 2 = 4 from rfl, oc_2 h0 h1 h2 h3 h4 h5 h6 h7]
    exact u64_nat (by omega)
  have s3 : ocI3 (ocI2 (ocI1 (x : Int))) = ((by8 (bP c0) (bP c1) (bP c2) (bP c3) (bP c4) (bP c5) (bP c6) (bP c7) : Nat) : Int) := by
    rw [s2]
    unfold ocI3
    have := fdiv_nat (by8 (bZ c0) (bZ c1) (bZ c2) (bZ c3) (bZ c4) (bZ c5) (bZ c6) (bZ c7)) 4 (by omega)
    rw [show ((4 : Nat) : Int) = 4 from rfl] at this
    rw [this, ← Int.natCast_add, show 2 ^ 4 = 16 from rfl, u64_nat (by omega), show (1085102592571150095 : Int) = ((1085102592571150095 : Nat) : Int) from rfl, and64 (by omega) (by omega), oc_3 h0 h1 h2 h3 h4 h5 h6 h7]
  rw [s3]
  have g0 := bP_le c0 h0; have g1 := bP_le c1 h1; have g2 := bP_le c2 h2; have g3 := bP_le c3 h3; have g4 := bP_le c4 h4; have g5 := bP_le c5 h5; have g6 := bP_le c6 h6; have g7 := bP_le c7 h7
  rw [oc_end _ _ _ _ _ _ _ _ g0 g1 g2 g3 g4 g5 g6 g7]
theorem OnesCount_eq (x : Nat) (hx : x < 18446744073709551616) : math_bits_OnesCount64 x = some ((popc x : Nat) : Int) :=
  OnesCount_by8 x _ _ _ _ _ _ _ _ hx (by8_split x hx) (by omega) (by omega) (by omega) (by omega) (by omega) (by omega) (by omega) (by omega)
theorem countP_split (f : Nat → Bool) (a b : Nat) : (List.range (a + b)).countP f = (List.range a).countP f + (List.range b).countP (fun i => f (a + i)) := by
  rw [List.range_add, List.countP_append, List.countP_map]; rfl
theorem popc_count (x : Nat) (hx : x < 18446744073709551616) : popc x = (List.range 64).countP (fun i => x.testBit i) := by
  have e : ∀ k, k ≤ 7 → (List.range 8).countP (fun i => x.testBit (8 * k + i)) = bP (x / 2 ^ (8 * k) % 256) := by
    intro k hk
    rw [bP_count ⟨x / 2 ^ (8 * k) % 256, Nat.mod_lt _ (by decide)⟩]
    apply List.countP_congr
    intro i hi
    have hi := List.mem_range.1 hi
    simp only
    rw [show 256 = 2 ^ 8 from rfl, Nat.testBit_mod_two_pow, Nat.testBit_div_two_pow]
    simp [hi, Nat.add_comm]
  rw [show 64 = 8 + (8 + (8 + (8 + (8 + (8 + (8 + 8)))))) from rfl]
  simp only [countP_split]
  have e0 := e 0 (by omega); have e1 := e 1 (by omega); have e2 := e 2 (by omega); have e3 := e 3 (by omega); have e4 := e 4 (by omega); have e5 := e 5 (by omega); have e6 := e 6 (by omega); have e7 := e 7 (by omega)
  simp only [Nat.mul_zero, Nat.zero_add, Nat.mul_one, Nat.reduceMul, Nat.reducePow, Nat.div_one] at e0 e1 e2 e3 e4 e5 e6 e7
  have e7' : x / 72057594037927936 % 256 = x / 72057594037927936 := by omega
  rw [e7'] at e7
  simp only [← Nat.add_assoc, Nat.reduceAdd]
  unfold popc
  rw [e0, e1, e2, e3, e4, e5, e6, e7]

/-! ### The place of the highest bit -/
def bitlen (x : Nat) : Nat := if x = 0 then 0 else x.log2 + 1
theorem bitlen_spec (x : Nat) : x < 2 ^ bitlen x ∧ (x ≠ 0 → 2 ^ (bitlen x - 1) ≤ x ∧ 1 ≤ bitlen x) := by
  unfold bitlen
  split
  · simp_all
  · rename_i h
    exact ⟨Nat.lt_log2_self, fun _ => ⟨by simpa using Nat.log2_self_le h, by omega⟩⟩
theorem bitlen_unique {x L : Nat} (h1 : x < 2 ^ L) (h2 : L ≠ 0 → 2 ^ (L - 1) ≤ x) : bitlen x = L := by
  obtain ⟨g1, g2⟩ := bitlen_spec x
  by_cases hx : x = 0
  · subst hx
    by_cases hL : L = 0
    · rw [hL]; rfl
    · have := h2 hL
      have := Nat.two_pow_pos (L - 1)
      omega
  · obtain ⟨g3, g4⟩ := g2 hx
    rcases Nat.lt_trichotomy (bitlen x) L with h | h | h
    · have := h2 (by omega)
      have : 2 ^ bitlen x ≤ 2 ^ (L - 1) := Nat.pow_le_pow_right (by decide) (by omega)
      omega
    · exact h
    · have : 2 ^ L ≤ 2 ^ (bitlen x - 1) := Nat.pow_le_pow_right (by decide) (by omega)
      omega
theorem bitlen_shift {x k : Nat} (h : 2 ^ k ≤ x) : bitlen x = bitlen (x / 2 ^ k) + k := by
  have hp := Nat.two_pow_pos k
  have hq : x / 2 ^ k ≠ 0 := by
    have := Nat.div_pos h hp
    omega
  obtain ⟨g1, g2⟩ := bitlen_spec (x / 2 ^ k)
  obtain ⟨g3, g4⟩ := g2 hq
  apply bitlen_unique
  · rw [Nat.pow_add]
    exact (Nat.div_lt_iff_lt_mul hp).1 g1
  · intro _
    have : bitlen (x / 2 ^ k) + k - 1 = (bitlen (x / 2 ^ k) - 1) + k := by omega
    rw [this, Nat.pow_add]
    exact (Nat.le_div_iff_mul_le hp).1 g3
def lenTab : List Nat := [0, 1, 2, 2, 3, 3, 3, 3, 4, 4, 4, 4, 4, 4, 4, 4, 5, 5, 5, 5, 5, 5, 5, 5, 5, 5, 5, 5, 5, 5, 5, 5] ++ List.replicate 32 6 ++ List.replicate 64 7 ++ List.replicate 128 8
theorem tab_spec : ∀ c : Fin 256, lenTab.getD c.1 0 = bitlen c.1 := by decide +kernel
def len64 (x : Int) : Option Int :=
  let t : Int → Int → Option Int := fun n x => within (IntKind.u8.wrap x) (bs lenTab).size (some (IntKind.i64.wrap (n + IntKind.i64.wrap (byteAt (bs lenTab) (IntKind.u8.wrap x).toNat))))
  let c : Int → Int → Option Int := fun n x => bif decide ((256 : Int) ≤ x) then t (IntKind.i64.wrap (n + 8)) (Int.fdiv x (2 ^ min ((8 : Int)).toNat 64)) else t n x
  let b : Int → Int → Option Int := fun n x => bif decide ((65536 : Int) ≤ x) then c (IntKind.i64.wrap (n + 16)) (Int.fdiv x (2 ^ min ((16 : Int)).toNat 64)) else c n x
  bif decide ((4294967296 : Int) ≤ x) then b 32 (Int.fdiv x (2 ^ min ((32 : Int)).toNat 64)) else b 0 x
theorem len64_unfold (x : Int) : math_bits_Len64 x = len64 x := by kernel_rfl
theorem lenTab_at (c : Nat) (h : c < 256) : byteAt (bs lenTab) c = ((bitlen c : Nat) : Int) := by
  rw [bl_byteAt, bl_bs (by decide +kernel), ← tab_spec ⟨c, h⟩, List.getD_eq_getElem?_getD, List.getElem?_map, List.getD_eq_getElem?_getD]
  cases lenTab[c]? <;> rfl
theorem bitlen_le {x k : Nat} (h : x < 2 ^ k) : bitlen x ≤ k := by
  by_cases hx : x = 0
  · subst hx; simp [bitlen]
  · obtain ⟨g3, g4⟩ := (bitlen_spec x).2 hx
    rcases Nat.lt_or_ge k (bitlen x) with h1 | h1
    · have : 2 ^ k ≤ 2 ^ (bitlen x - 1) := Nat.pow_le_pow_right (by decide) (by omega)
      omega
    · exact h1
theorem Len64_eq (x : Nat) (hx : x < 18446744073709551616) : math_bits_Len64 x = some ((bitlen x : Nat) : Int) := by
  rw [len64_unfold]
  unfold len64
  simp only
  have ht : ∀ (n : Nat) (c : Nat), n ≤ 100 → c < 256 → within (IntKind.u8.wrap (c : Int)) (bs lenTab).size (some (IntKind.i64.wrap ((n : Int) + IntKind.i64.wrap (byteAt (bs lenTab) (IntKind.u8.wrap (c : Int)).toNat)))) = some (((n + bitlen c : Nat) : Int)) := by
    intro n c hn hc
    have hl : (bs lenTab).size = 256 := by rw [← bl_length, bl_bs (by decide +kernel)]; rfl
    have hb := bitlen_le (k := 8) hc
    rw [u8_id (by omega) (by omega), hl, within_nat_lt hc, Int.toNat_natCast, lenTab_at c hc, i64_nat (by omega), i64_id (by omega) (by omega)]
    rfl
  have f8 : ∀ a : Nat, Int.fdiv (a : Int) (2 ^ min ((8 : Int)).toNat 64) = ((a / 2 ^ 8 : Nat) : Int) := fun a => fdiv_nat a 8 (by omega)
  have f16 : ∀ a : Nat, Int.fdiv (a : Int) (2 ^ min ((16 : Int)).toNat 64) = ((a / 2 ^ 16 : Nat) : Int) := fun a => fdiv_nat a 16 (by omega)
  have f32 : ∀ a : Nat, Int.fdiv (a : Int) (2 ^ min ((32 : Int)).toNat 64) = ((a / 2 ^ 32 : Nat) : Int) := fun a => fdiv_nat a 32 (by omega)
  have hc : ∀ (n : Nat) (y : Nat), n ≤ 48 → y < 65536 → (bif decide ((256 : Int) ≤ (y : Int)) then within (IntKind.u8.wrap (Int.fdiv (y : Int) (2 ^ min ((8 : Int)).toNat 64))) (bs lenTab).size (some (IntKind.i64.wrap (IntKind.i64.wrap ((n : Int) + 8) + IntKind.i64.wrap (byteAt (bs lenTab) (IntKind.u8.wrap (Int.fdiv (y : Int) (2 ^ min ((8 : Int)).toNat 64))).toNat)))) else within (IntKind.u8.wrap (y : Int)) (bs lenTab).size (some (IntKind.i64.wrap ((n : Int) + IntKind.i64.wrap (byteAt (bs lenTab) (IntKind.u8.wrap (y : Int)).toNat))))) = some (((n + bitlen y : Nat) : Int)) := by
    intro n y hn hy
    by_cases h : 256 ≤ y
    · rw [decide_eq_true (by omega), cond_true, f8, i64_id (x := (n : Int) + 8) (by omega) (by omega)]
      have := ht (n + 8) (y / 2 ^ 8) (by omega) (by omega)
      rw [show ((n : Int) + 8) = ((n + 8 : Nat) : Int) from rfl, this, bitlen_shift (k := 8) h]
      congr 2; omega
    · rw [decide_eq_false (by omega), cond_false]
      exact ht n y (by omega) (by omega)
  have hb : ∀ (n : Nat) (y : Nat), n ≤ 32 → y < 4294967296 → (bif decide ((65536 : Int) ≤ (y : Int)) then (bif decide ((256 : Int) ≤ Int.fdiv (y : Int) (2 ^ min ((16 : Int)).toNat 64)) then within (IntKind.u8.wrap (Int.fdiv (Int.fdiv (y : Int) (2 ^ min ((16 : Int)).toNat 64)) (2 ^ min ((8 : Int)).toNat 64))) (bs lenTab).size (some (IntKind.i64.wrap (IntKind.i64.wrap (IntKind.i64.wrap ((n : Int) + 16) + 8) + IntKind.i64.wrap (byteAt (bs lenTab) (IntKind.u8.wrap (Int.fdiv (Int.fdiv (y : Int) (2 ^ min ((16 : Int)).toNat 64)) (2 ^ min ((8 : Int)).toNat 64))).toNat)))) else within (IntKind.u8.wrap (Int.fdiv (y : Int) (2 ^ min ((16 : Int)).toNat 64))) (bs lenTab).size (some (IntKind.i64.wrap (IntKind.i64.wrap ((n : Int) + 16) + IntKind.i64.wrap (byteAt (bs lenTab) (IntKind.u8.wrap (Int.fdiv (y : Int) (2 ^ min ((16 : Int)).toNat 64))).toNat))))) else
      (bif decide ((256 : Int) ≤ (y : Int)) then within (IntKind.u8.wrap (Int.fdiv (y : Int) (2 ^ min ((8 : Int)).toNat 64))) (bs lenTab).size (some (IntKind.i64.wrap (IntKind.i64.wrap ((n : Int) + 8) + IntKind.i64.wrap (byteAt (bs lenTab) (IntKind.u8.wrap (Int.fdiv (y : Int) (2 ^ min ((8 : Int)).toNat 64))).toNat)))) else within (IntKind.u8.wrap (y : Int)) (bs lenTab).size (some (IntKind.i64.wrap ((n : Int) + IntKind.i64.wrap (byteAt (bs lenTab) (IntKind.u8.wrap (y : Int)).toNat)))))) = some (((n + bitlen y : Nat) : Int)) := by
    intro n y hn hy
    by_cases h : 65536 ≤ y
    · rw [decide_eq_true (by omega), cond_true, f16, i64_id (x := (n : Int) + 16) (by omega) (by omega)]
      have := hc (n + 16) (y / 2 ^ 16) (by omega) (by omega)
      rw [show ((n : Int) + 16) = ((n + 16 : Nat) : Int) from rfl, this, bitlen_shift (k := 16) h]
      congr 2; omega
    · rw [decide_eq_false (by omega), cond_false]
      exact hc n y (by omega) (by omega)
  by_cases h : 4294967296 ≤ x
  · rw [decide_eq_true (by omega), cond_true, f32]
    have := hb 32 (x / 2 ^ 32) (by omega) (by omega)
    rw [show ((32 : Nat) : Int) = 32 from rfl] at this
    rw [this, bitlen_shift (k := 32) h]
    congr 2; omega
  · rw [decide_eq_false (by omega), cond_false]
    have := hb 0 x (by omega) (by omega)
    rw [show ((0 : Nat) : Int) = 0 from rfl] at this
    rw [this]
    congr 2; omega
theorem LeadingZeros_eq (x : Nat) (hx : x < 18446744073709551616) : math_bits_LeadingZeros64 x = some (((64 - bitlen x : Nat)) : Int) := by
  unfold math_bits_LeadingZeros64 math_bits_LeadingZeros64_s0
  have := bitlen_le (k := 64) hx
  rw [Len64_eq x hx, some_bind, i64_id (by omega) (by omega)]
  congr 1; omega
end Groat

/- Layer 5: sets of numbers as bits. -/
set_option linter.unusedVariables false
set_option linter.unusedSimpArgs false
namespace Groat
open Go Go.Ref

abbrev FSet := Int × Int × Unit
abbrev B64 : Nat := 18446744073709551616
def hasN (h l : Nat) (n : Int) : Bool :=
  if 1 ≤ n ∧ n ≤ 64 then h.testBit (64 - n).toNat else if 65 ≤ n ∧ n ≤ 128 then l.testBit (128 - n).toNat else false
def bitH (n : Int) : Nat := if 1 ≤ n ∧ n ≤ 64 then 2 ^ (64 - n).toNat else 0
def bitL (n : Int) : Nat := if 65 ≤ n ∧ n ≤ 128 then 2 ^ (128 - n).toNat else 0
theorem pow_lt64 {k : Nat} (h : k < 64) : 2 ^ k < B64 := Nat.pow_lt_pow_right (by decide) h
theorem bitH_lt (n : Int) : bitH n < B64 := by
  unfold bitH; split
  · exact pow_lt64 (by omega)
  · decide
theorem bitL_lt (n : Int) : bitL n < B64 := by
  unfold bitL; split
  · exact pow_lt64 (by omega)
  · decide
theorem shl_one {k : Nat} (h : k < 64) : IntKind.u64.wrap ((1 : Int) * 2 ^ min k 64) = ((2 ^ k : Nat) : Int) := by
  rw [Nat.min_eq_left (by omega), Int.one_mul]
  have := pow_lt64 h
  have e : ((2 : Int) ^ k) = ((2 ^ k : Nat) : Int) := by simp
  rw [e]
  exact u64_nat this
theorem bit_eq (n : Int) : fields_bit n = some ((bitH n : Int), (bitL n : Int), ()) := by
  unfold fields_bit fields_bit_s0 bitH bitL
  by_cases h1 : n < 1
  · rw [decide_eq_true h1, if_neg (by omega), if_neg (by omega)]; rfl
  rw [decide_eq_false h1, cond_false]
  by_cases h2 : 128 < n
  · rw [decide_eq_true h2, if_neg (by omega), if_neg (by omega)]; rfl
  rw [decide_eq_false h2, cond_false]
  by_cases h3 : n ≤ 64
  · rw [decide_eq_true h3, cond_true, i64_id (by omega) (by omega), decide_eq_false (by omega), cond_false, shl_one (by omega), if_pos (by omega), if_neg (by omega)]; rfl
  · rw [decide_eq_false h3, cond_false, i64_id (by omega) (by omega), decide_eq_false (by omega), cond_false, shl_one (by omega), if_neg (by omega), if_pos (by omega)]; rfl
theorem and_pow_zero (h k : Nat) : (h &&& 2 ^ k = 0) ↔ h.testBit k = false := by
  constructor
  · intro e
    have := congrArg (fun x => x.testBit k) e
    simpa [Nat.testBit_and, Nat.testBit_two_pow] using this
  · intro e
    apply Nat.eq_of_testBit_eq
    intro i
    rw [Nat.testBit_and, Nat.testBit_two_pow]
    by_cases hi : k = i
    · subst hi; simp [e]
    · simp [hi]
theorem Has_eq (h l : Nat) (hh : h < B64) (hl : l < B64) (n : Int) : fields_Set_Has ((h : Int), (l : Int), ()) n = some (hasN h l n) := by
  unfold fields_Set_Has fields_Set_Has_s0 fields_Set_Both fields_Set_Both_s0
  rw [bit_eq, some_bind, and64 hh (bitH_lt n), and64 hl (bitL_lt n), some_bind]
  congr 1
  simp only [Bool.and_true]
  have e : ∀ a : Nat, decide ((a : Int) = 0) = decide (a = 0) := fun a => decide_eq_decide.2 (by omega)
  rw [e, e]
  unfold bitH bitL hasN
  by_cases h1 : 1 ≤ n ∧ n ≤ 64
  · rw [if_pos h1, if_pos h1, if_neg (by omega)]
    have := and_pow_zero h (64 - n).toNat
    cases hb : h.testBit (64 - n).toNat with
    | false => simp [this.2 hb]
    | true => simp; intro hz; exact absurd (this.1 hz) (by simp [hb])
  · rw [if_neg h1, if_neg h1]
    by_cases h2 : 65 ≤ n ∧ n ≤ 128
    · rw [if_pos h2, if_pos h2]
      have := and_pow_zero l (128 - n).toNat
      cases hb : l.testBit (128 - n).toNat with
      | false => simp [this.2 hb]
      | true => simp; intro hz; exact absurd (this.1 hz) (by simp [hb])
    · rw [if_neg h2, if_neg h2]; simp
theorem Either_eq (h l h' l' : Nat) (hh : h < B64) (hl : l < B64) (hh' : h' < B64) (hl' : l' < B64) : fields_Set_Either ((h : Int), (l : Int), ()) ((h' : Int), (l' : Int), ()) = some (((h ||| h' : Nat) : Int), ((l ||| l' : Nat) : Int), ()) := by
  unfold fields_Set_Either fields_Set_Either_s0
  rw [or64 hh hh', or64 hl hl']
theorem Both_eq (h l h' l' : Nat) (hh : h < B64) (hl : l < B64) (hh' : h' < B64) (hl' : l' < B64) : fields_Set_Both ((h : Int), (l : Int), ()) ((h' : Int), (l' : Int), ()) = some (((h &&& h' : Nat) : Int), ((l &&& l' : Nat) : Int), ()) := by
  unfold fields_Set_Both fields_Set_Both_s0
  rw [and64 hh hh', and64 hl hl']
theorem With_eq (h l : Nat) (hh : h < B64) (hl : l < B64) (n : Int) : fields_Set_With ((h : Int), (l : Int), ()) n = some (((h ||| bitH n : Nat) : Int), ((l ||| bitL n : Nat) : Int), ()) := by
  unfold fields_Set_With fields_Set_With_s0
  rw [bit_eq, some_bind, Either_eq h l _ _ hh hl (bitH_lt n) (bitL_lt n)]; rfl
theorem Without_eq (h l : Nat) (hh : h < B64) (hl : l < B64) (n : Int) : fields_Set_Without ((h : Int), (l : Int), ()) n = some (((h &&& (B64 - 1 - bitH n) : Nat) : Int), ((l &&& (B64 - 1 - bitL n) : Nat) : Int), ()) := by
  unfold fields_Set_Without fields_Set_Without_s0
  rw [bit_eq, some_bind, andNot64 hh (bitH_lt n), andNot64 hl (bitL_lt n)]; rfl
theorem or_lt {a b : Nat} (ha : a < B64) (hb : b < B64) : a ||| b < B64 := Nat.or_lt_two_pow (n := 64) ha hb
theorem and_lt {a b : Nat} (ha : a < B64) : a &&& b < B64 := Nat.lt_of_le_of_lt Nat.and_le_left ha
theorem has_or (h l h' l' : Nat) (n : Int) : hasN (h ||| h') (l ||| l') n = (hasN h l n || hasN h' l' n) := by
  unfold hasN; split
  · rw [Nat.testBit_or]
  · split
    · rw [Nat.testBit_or]
    · rfl
theorem has_and (h l h' l' : Nat) (n : Int) : hasN (h &&& h') (l &&& l') n = (hasN h l n && hasN h' l' n) := by
  unfold hasN; split
  · rw [Nat.testBit_and]
  · split
    · rw [Nat.testBit_and]
    · rfl
def inR (n : Int) : Bool := decide (1 ≤ n ∧ n ≤ 128)
theorem has_bit (m n : Int) : hasN (bitH m) (bitL m) n = (decide (m = n) && inR n) := by
  unfold hasN bitH bitL inR
  by_cases h1 : 1 ≤ n ∧ n ≤ 64
  · rw [if_pos h1]
    by_cases h2 : 1 ≤ m ∧ m ≤ 64
    · rw [if_pos h2, Nat.testBit_two_pow, decide_eq_true (p := 1 ≤ n ∧ n ≤ 128) (by omega), Bool.and_true]
      exact decide_eq_decide.2 (by omega)
    · rw [if_neg h2, decide_eq_false (by omega : ¬ m = n)]; simp
  · rw [if_neg h1]
    by_cases h3 : 65 ≤ n ∧ n ≤ 128
    · rw [if_pos h3]
      by_cases h2 : 65 ≤ m ∧ m ≤ 128
      · rw [if_pos h2, Nat.testBit_two_pow, decide_eq_true (p := 1 ≤ n ∧ n ≤ 128) (by omega), Bool.and_true]
        exact decide_eq_decide.2 (by omega)
      · rw [if_neg h2, decide_eq_false (by omega : ¬ m = n)]; simp
    · rw [if_neg h3, decide_eq_false (p := 1 ≤ n ∧ n ≤ 128) (by omega), Bool.and_false]
theorem has_with (h l : Nat) (m n : Int) : hasN (h ||| bitH m) (l ||| bitL m) n = (hasN h l n || (decide (m = n) && inR n)) := by rw [has_or, has_bit]
theorem testBit_compl {b i : Nat} (hb : b < B64) (hi : i < 64) : (B64 - 1 - b).testBit i = !b.testBit i := by
  have : B64 - 1 - b = 2 ^ 64 - (b + 1) := by show 18446744073709551616 - 1 - b = _; omega
  rw [this, Nat.testBit_two_pow_sub_succ hb, decide_eq_true hi, Bool.true_and]
theorem has_without (h l : Nat) (m n : Int) : hasN (h &&& (B64 - 1 - bitH m)) (l &&& (B64 - 1 - bitL m)) n = (hasN h l n && !decide (m = n)) := by
  have hb := has_bit m n
  rw [has_and]
  unfold hasN inR at *
  by_cases h1 : 1 ≤ n ∧ n ≤ 64
  · rw [if_pos h1] at hb ⊢
    rw [if_pos h1, testBit_compl (bitH_lt m) (by omega), hb, decide_eq_true (p := 1 ≤ n ∧ n ≤ 128) (by omega), Bool.and_true]
  · rw [if_neg h1] at hb ⊢
    rw [if_neg h1]
    by_cases h3 : 65 ≤ n ∧ n ≤ 128
    · rw [if_pos h3] at hb ⊢
      rw [if_pos h3, testBit_compl (bitL_lt m) (by omega), hb, decide_eq_true (p := 1 ≤ n ∧ n ≤ 128) (by omega), Bool.and_true]
    · rw [if_neg h3]; simp
theorem has_range {h l : Nat} {n : Int} (hh : hasN h l n = true) : 1 ≤ n ∧ n ≤ 128 := by
  unfold hasN at hh
  split at hh
  · omega
  · split at hh
    · omega
    · cases hh
/-- Sets are the same, if they have the same numbers. -/
theorem set_ext {h l h' l' : Nat} (hh : h < B64) (hl : l < B64) (hh' : h' < B64) (hl' : l' < B64) (e : ∀ n : Int, 1 ≤ n → n ≤ 128 → hasN h l n = hasN h' l' n) : h = h' ∧ l = l' := by
  constructor
  · apply Nat.eq_of_testBit_eq
    intro i
    by_cases hi : i < 64
    · have := e (64 - i) (by omega) (by omega)
      unfold hasN at this
      rw [if_pos (by omega), if_pos (by omega)] at this
      have e2 : (64 - (64 - (i : Int))).toNat = i := by omega
      rwa [e2] at this
    · rw [Nat.testBit_lt_two_pow (Nat.lt_of_lt_of_le hh (Nat.pow_le_pow_right (n := 2) (by decide) (by omega : 64 ≤ i))), Nat.testBit_lt_two_pow (Nat.lt_of_lt_of_le hh' (Nat.pow_le_pow_right (n := 2) (by decide) (by omega : 64 ≤ i)))]
  · apply Nat.eq_of_testBit_eq
    intro i
    by_cases hi : i < 64
    · have := e (128 - i) (by omega) (by omega)
      unfold hasN at this
      have h1 : ¬ (1 ≤ 128 - (i : Int) ∧ 128 - (i : Int) ≤ 64) := by omega
      have h2 : 65 ≤ 128 - (i : Int) ∧ 128 - (i : Int) ≤ 128 := by omega
      rw [if_neg h1, if_pos h2, if_neg h1, if_pos h2] at this
      have e2 : (128 - (128 - (i : Int))).toNat = i := by omega
      rwa [e2] at this
    · rw [Nat.testBit_lt_two_pow (Nat.lt_of_lt_of_le hl (Nat.pow_le_pow_right (n := 2) (by decide) (by omega : 64 ≤ i))), Nat.testBit_lt_two_pow (Nat.lt_of_lt_of_le hl' (Nat.pow_le_pow_right (n := 2) (by decide) (by omega : 64 ≤ i)))]

/-! ### A set of a list -/
def setH (l : List Int) : Nat := l.foldl (fun a n => a ||| bitH n) 0
def setL (l : List Int) : Nat := l.foldl (fun a n => a ||| bitL n) 0
theorem fold_or_lt (f : Int → Nat) (hf : ∀ n, f n < B64) (l : List Int) : ∀ a, a < B64 → l.foldl (fun a n => a ||| f n) a < B64 := by
  induction l with
  | nil => intro a h; exact h
  | cons x r ih => intro a h; exact ih _ (or_lt h (hf x))
theorem setH_lt (l : List Int) : setH l < B64 := fold_or_lt _ bitH_lt l 0 (by decide)
theorem setL_lt (l : List Int) : setL l < B64 := fold_or_lt _ bitL_lt l 0 (by decide)
theorem fold_has (l : List Int) : ∀ (a b : Nat) (n : Int), hasN (l.foldl (fun a n => a ||| bitH n) a) (l.foldl (fun a n => a ||| bitL n) b) n = (hasN a b n || (decide (n ∈ l) && inR n)) := by
  induction l with
  | nil => intro a b n; simp
  | cons x r ih =>
    intro a b n
    rw [List.foldl_cons, List.foldl_cons, ih, has_with]
    by_cases h1 : x = n
    · subst h1; cases inR x <;> simp
    · have : n ≠ x := fun e => h1 e.symm
      simp [h1, this]
theorem set_has (l : List Int) (n : Int) : hasN (setH l) (setL l) n = (decide (n ∈ l) && inR n) := by
  unfold setH setL
  rw [fold_has]
  have : hasN 0 0 n = false := by unfold hasN; simp
  rw [this]; simp
theorem of_loop (xs : List Int) (hx : xs.length ≤ 9223372036854775807) (b0 : FSet) : ∀ (n j k : Nat) (a b : Nat), j + n = xs.length → n < k → a < B64 → b < B64 →
    fields_Of_l0 k xs (xs.length : Int) j b0 ((a : Int), (b : Int), ()) = some (b0, ((((xs.drop j).foldl (fun a n => a ||| bitH n) a : Nat) : Int), (((xs.drop j).foldl (fun a n => a ||| bitL n) b : Nat) : Int), ())) := by
  intro n
  induction n with
  | zero =>
    intro j k a b hj hk ha hb
    obtain ⟨k, rfl⟩ : ∃ k', k = k' + 1 := ⟨k - 1, by omega⟩
    rw [fields_Of_l0, fields_Of_s1, decide_eq_false (by omega), List.drop_eq_nil_of_le (by omega)]; rfl
  | succ n ih =>
    intro j k a b hj hk ha hb
    obtain ⟨k, rfl⟩ : ∃ k', k = k' + 1 := ⟨k - 1, by omega⟩
    have hlt : j < xs.length := by omega
    have hx' : xs.getD ((j : Int)).toNat 0 = xs[j] := by rw [Int.toNat_natCast, List.getD_eq_getElem?_getD, List.getElem?_eq_getElem hlt]; rfl
    rw [fields_Of_l0, fields_Of_s1, decide_eq_true (by omega), cond_true, within_nat_lt hlt, hx', With_eq a b ha hb, some_bind, i64_succ (by omega), ih (j + 1) k _ _ (by omega) (by omega) (or_lt ha (bitH_lt _)) (or_lt hb (bitL_lt _)), List.drop_eq_getElem_cons hlt]
    rfl
theorem Of_eq (xs : List Int) (hx : xs.length ≤ maxLen) : fields_Of xs = some ((setH xs : Int), (setL xs : Int), ()) := by
  rw [maxLen_eq] at hx
  unfold fields_Of fields_Of_s0
  have := of_loop xs hx (0, 0, ()) xs.length 0 FUEL 0 0 (by omega) (by rw [fuel_eq]; omega) (by decide) (by decide)
  simp only [fields_Of_s2]
  have e : fields_Of_l0 FUEL xs (xs.length : Int) 0 (0, 0, ()) (0, 0, ()) = _ := this
  rw [e]; rfl

/-! ### Its numbers, rising; how many; the next one -/
def nums : List Int := (List.range 128).map fun k : Nat => ((k + 1 : Nat) : Int)
theorem mem_nums (n : Int) : n ∈ nums ↔ 1 ≤ n ∧ n ≤ 128 := by
  unfold nums
  constructor
  · intro h
    obtain ⟨k, hk, rfl⟩ := List.mem_map.1 h
    have := List.mem_range.1 hk
    omega
  · intro h
    exact List.mem_map.2 ⟨(n - 1).toNat, List.mem_range.2 (by omega), by omega⟩
theorem nums_sorted : nums.Pairwise (· < ·) := by
  unfold nums
  exact List.Pairwise.map _ (fun a b h => by omega) List.pairwise_lt_range
def elems (h l : Nat) : List Int := nums.filter (hasN h l)
theorem mem_elems (h l : Nat) (n : Int) : n ∈ elems h l ↔ hasN h l n = true := by
  unfold elems
  rw [List.mem_filter, mem_nums]
  exact ⟨fun h => h.2, fun h => ⟨has_range h, h⟩⟩
theorem elems_sorted (h l : Nat) : (elems h l).Pairwise (· < ·) := nums_sorted.filter _
theorem range_rev : (List.range 64).map (fun k => 63 - k) = (List.range 64).reverse := by decide
theorem rev_count (f : Nat → Bool) : (List.range 64).countP (fun k => f (63 - k)) = (List.range 64).countP f := by
  rw [← List.countP_reverse (l := List.range 64) (p := f), ← range_rev, List.countP_map]; rfl
theorem split128 (f : Nat → Bool) (n : Nat) (hn : n = 64 + 64) : (List.range n).countP f = (List.range 64).countP f + (List.range 64).countP (fun i => f (64 + i)) := by
  subst hn; exact countP_split f 64 64
theorem elems_len (h l : Nat) : (elems h l).length = (List.range 64).countP (fun i => h.testBit i) + (List.range 64).countP (fun i => l.testBit i) := by
  have e1 : (elems h l).length = (List.range 128).countP (hasN h l ∘ fun k : Nat => ((k + 1 : Nat) : Int)) := by
    unfold elems nums
    rw [← List.countP_eq_length_filter, List.countP_map]
  rw [e1, split128 _ 128 rfl, ← rev_count (fun i => h.testBit i), ← rev_count (fun i => l.testBit i)]
  have a : (List.range 64).countP (hasN h l ∘ fun k : Nat => ((k + 1 : Nat) : Int)) = (List.range 64).countP (fun k => h.testBit (63 - k)) := by
    apply List.countP_congr
    intro k hk
    have hk := List.mem_range.1 hk
    simp only [Function.comp, hasN]
    rw [if_pos (by omega)]
    have : (64 - ((k + 1 : Nat) : Int)).toNat = 63 - k := by omega
    rw [this]
  have b : (List.range 64).countP (fun i => (hasN h l ∘ fun k : Nat => ((k + 1 : Nat) : Int)) (64 + i)) = (List.range 64).countP (fun k => l.testBit (63 - k)) := by
    apply List.countP_congr
    intro k hk
    have hk := List.mem_range.1 hk
    simp only [Function.comp, hasN]
    rw [if_neg (by omega), if_pos (by omega)]
    have : (128 - ((64 + k + 1 : Nat) : Int)).toNat = 63 - k := by omega
    rw [this]
  rw [a, b]
theorem Len_eq (h l : Nat) (hh : h < B64) (hl : l < B64) : fields_Set_Len ((h : Int), (l : Int), ()) = some (((elems h l).length : Nat) : Int) := by
  unfold fields_Set_Len fields_Set_Len_s0
  rw [OnesCount_eq h hh, some_bind, OnesCount_eq l hl, some_bind, popc_count h hh, popc_count l hl]
  have c1 := List.countP_le_length (p := fun i => h.testBit i) (l := List.range 64)
  have c2 := List.countP_le_length (p := fun i => l.testBit i) (l := List.range 64)
  simp only [List.length_range] at c1 c2
  rw [i64_id (by omega) (by omega)]
  rw [elems_len]; rfl
/-- The least of its numbers above one; 0. -/
def nextN (h l : Nat) (n : Int) : Int := ((elems h l).filter fun m => decide (n < m)).headD 0
def IsNext (h l : Nat) (n r : Int) : Prop := (r = 0 ∧ ∀ m, n < m → hasN h l m = false) ∨ (n < r ∧ hasN h l r = true ∧ ∀ m, n < m → m < r → hasN h l m = false)
theorem nextN_is (h l : Nat) (n : Int) : IsNext h l n (nextN h l n) := by
  unfold nextN
  cases hf : (elems h l).filter fun m => decide (n < m) with
  | nil =>
    left
    refine ⟨rfl, fun m hm => ?_⟩
    cases hb : hasN h l m with
    | false => rfl
    | true =>
      have : m ∈ (elems h l).filter fun m => decide (n < m) := List.mem_filter.2 ⟨(mem_elems h l m).2 hb, by simpa using hm⟩
      rw [hf] at this; cases this
  | cons x r =>
    right
    have hx : x ∈ (elems h l).filter fun m => decide (n < m) := by rw [hf]; simp
    obtain ⟨h1, h2⟩ := List.mem_filter.1 hx
    refine ⟨by simpa using h2, (mem_elems h l x).1 h1, fun m hm hmx => ?_⟩
    cases hb : hasN h l m with
    | false => rfl
    | true =>
      have hmem : m ∈ (elems h l).filter fun m => decide (n < m) := List.mem_filter.2 ⟨(mem_elems h l m).2 hb, by simpa using hm⟩
      have hs := (elems_sorted h l).filter (fun m => decide (n < m))
      rw [hf] at hmem hs
      rcases List.mem_cons.1 hmem with e | e
      · simp only [List.headD_cons] at hmx; omega
      · have := (List.pairwise_cons.1 hs).1 m e
        simp only [List.headD_cons] at hmx; omega
theorem isNext_unique {h l : Nat} {n r q : Int} (h1 : IsNext h l n r) (h2 : IsNext h l n q) : r = q := by
  rcases h1 with ⟨e, a⟩ | ⟨e, a, b⟩ <;> rcases h2 with ⟨e', a'⟩ | ⟨e', a', b'⟩
  · rw [e, e']
  · rw [a q e'] at a'; cases a'
  · rw [a' r e] at a; cases a
  · rcases Int.lt_trichotomy r q with h | h | h
    · rw [b' r e h] at a; cases a
    · exact h
    · rw [b q e' h] at a'; cases a'
theorem word_next (x n : Nat) (hx : x < B64) (hn : n ≤ 64) :
    (x * 2 ^ n % B64 = 0 ∧ ∀ i, i < 64 - n → x.testBit i = false) ∨
    (x * 2 ^ n % B64 ≠ 0 ∧ bitlen (x * 2 ^ n % B64) ≤ 64 ∧ n < bitlen (x * 2 ^ n % B64) ∧ x.testBit (bitlen (x * 2 ^ n % B64) - 1 - n) = true ∧ ∀ i, bitlen (x * 2 ^ n % B64) - 1 - n < i → i < 64 - n → x.testBit i = false) := by
  have hb : ∀ i, (x * 2 ^ n % B64).testBit i = (decide (i < 64) && (decide (n ≤ i) && x.testBit (i - n))) := by
    intro i
    rw [show B64 = 2 ^ 64 from rfl, Nat.testBit_mod_two_pow, Nat.testBit_mul_two_pow]
  generalize x * 2 ^ n % B64 = r at hb
  have hr : ∀ i, i < 64 - n → x.testBit i = r.testBit (i + n) := by
    intro i hi
    rw [hb, decide_eq_true (by omega), decide_eq_true (by omega), Nat.add_sub_cancel]; rfl
  by_cases h0 : r = 0
  · left
    refine ⟨h0, fun i hi => ?_⟩
    rw [hr i hi, h0]; simp
  · right
    obtain ⟨g1, g2⟩ := bitlen_spec r
    obtain ⟨g3, g4⟩ := g2 h0
    have htop : r.testBit (bitlen r - 1) = true := by
      rw [Nat.testBit_eq_decide_div_mod_eq]
      have hp := Nat.two_pow_pos (bitlen r - 1)
      have : r / 2 ^ (bitlen r - 1) = 1 := by
        apply Nat.div_eq_of_lt_le
        · omega
        · have : 2 ^ bitlen r = 2 * 2 ^ (bitlen r - 1) := by
            rw [← Nat.pow_succ']; congr 1; omega
          omega
      rw [this]; rfl
    have hlt := htop
    rw [hb] at hlt
    simp only [Bool.and_eq_true, decide_eq_true_eq] at hlt
    refine ⟨h0, by omega, by omega, ?_, fun i h1 h2 => ?_⟩
    · exact hlt.2.2
    · rw [hr i h2]
      exact Nat.testBit_lt_two_pow (Nat.lt_of_lt_of_le g1 (Nat.pow_le_pow_right (by decide) (by omega)))
theorem shl_nat (x n : Nat) (hn : n ≤ 64) : IntKind.u64.wrap ((x : Int) * 2 ^ min ((n : Int)).toNat 64) = ((x * 2 ^ n % B64 : Nat) : Int) := by
  rw [u64_mod, Int.toNat_natCast, Nat.min_eq_left hn]
  have e : ((x : Int) * 2 ^ n) = ((x * 2 ^ n : Nat) : Int) := by simp
  rw [e]; rfl
theorem Next_eq (h l : Nat) (hh : h < B64) (hl : l < B64) (n : Int) (hn1 : -9223372036854775808 ≤ n) (hn2 : n ≤ 9223372036854775807) : fields_Set_Next ((h : Int), (l : Int), ()) n = some (nextN h l n) := by
  have goal : ∀ r, IsNext h l n r → some r = some (nextN h l n) := fun r hr => by rw [isNext_unique hr (nextN_is h l n)]
  unfold fields_Set_Next fields_Set_Next_s0
  obtain ⟨m, hm, hmn⟩ : ∃ m : Nat, (if n < (0 : Int) then (0 : Int) else n) = (m : Int) ∧ (n ≤ (m : Int) ∧ (0 ≤ n → n = m) ∧ (n < 0 → m = 0)) := by
    by_cases h0 : n < 0
    · exact ⟨0, by rw [if_pos h0]; rfl, by omega, by omega, by omega⟩
    · exact ⟨n.toNat, by rw [if_neg h0]; omega, by omega, by omega, by omega⟩
  have hlow : ∀ k : Int, k ≤ 0 → hasN h l k = false := fun k hk => by unfold hasN; rw [if_neg (by omega), if_neg (by omega)]
  have low : ∀ (sft base : Nat), sft ≤ 64 → (sft < 64 → base = 64 + sft) → (sft = 64 → 128 ≤ base) → (m : Int) ≤ base → base ≤ 9223372036854775807 → (∀ k, n < k → k ≤ base → k ≤ 128 → hasN h l k = false) →
      (bif !(decide (IntKind.u64.wrap ((l : Int) * 2 ^ min ((sft : Int)).toNat 64) = 0)) then (math_bits_LeadingZeros64 (IntKind.u64.wrap ((l : Int) * 2 ^ min ((sft : Int)).toNat 64))).bind (fun r => some (IntKind.i64.wrap (IntKind.i64.wrap ((base : Int) + r) + 1))) else some 0) = some (nextN h l n) := by
    intro sft base h1 h2 h2' h3 hbig h4
    rw [shl_nat l sft h1]
    have hlt : l * 2 ^ sft % B64 < B64 := Nat.mod_lt _ (by decide)
    rcases word_next l sft hl h1 with ⟨e, w⟩ | ⟨e, w1, w2, w3, w4⟩
    · rw [e, decide_eq_true (by rfl)]
      refine goal 0 (.inl ⟨rfl, fun k hk => ?_⟩)
      by_cases hk2 : k ≤ base ∧ k ≤ 128
      · exact h4 k hk hk2.1 hk2.2
      · unfold hasN
        by_cases hk3 : 65 ≤ k ∧ k ≤ 128
        · rw [if_neg (by omega), if_pos hk3]
          exact w _ (by omega)
        · by_cases hk4 : 1 ≤ k ∧ k ≤ 64
          · omega
          · rw [if_neg hk4, if_neg hk3]
    · have hs64 : sft < 64 := by omega
      have hbase := h2 hs64
      rw [decide_eq_false (by omega)]
      simp only [Bool.not_false, cond_true]
      rw [LeadingZeros_eq _ hlt, some_bind, i64_id (x := (base : Int) + _) (by omega) (by omega), i64_id (by omega) (by omega)]
      refine goal _ (.inr ⟨by omega, ?_, fun k hk1 hk2 => ?_⟩)
      · unfold hasN
        rw [if_neg (by omega), if_pos (by omega)]
        have : (128 - ((base : Int) + ((64 - bitlen (l * 2 ^ sft % B64) : Nat) : Int) + 1)).toNat = bitlen (l * 2 ^ sft % B64) - 1 - sft := by omega
        rw [this]; exact w3
      · by_cases hk3 : k ≤ base
        · exact h4 k hk1 hk3 (by omega)
        · unfold hasN
          rw [if_neg (by omega), if_pos (by omega)]
          exact w4 _ (by omega) (by omega)
  simp only [hm]
  by_cases c1 : m < 64
  · rw [decide_eq_true (by omega), cond_true, decide_eq_false (by omega), cond_false, shl_nat h m (by omega)]
    have hlt : h * 2 ^ m % B64 < B64 := Nat.mod_lt _ (by decide)
    rcases word_next h m hh (by omega) with ⟨e, w⟩ | ⟨e, w1, w2, w3, w4⟩
    · rw [e, decide_eq_true (by rfl)]
      have := low 0 64 (by omega) (by omega) (by omega) (by omega) (by omega) (fun k hk1 hk2 _ => by
        by_cases hk3 : 1 ≤ k
        · unfold hasN
          rw [if_pos (by omega)]
          exact w _ (by omega)
        · exact hlow k (by omega))
      exact this
    · rw [decide_eq_false (by omega)]
      simp only [Bool.not_false, cond_true]
      rw [LeadingZeros_eq _ hlt, some_bind, i64_id (x := (m : Int) + _) (by omega) (by omega), i64_id (by omega) (by omega)]
      refine goal _ (.inr ⟨by omega, ?_, fun k hk1 hk2 => ?_⟩)
      · unfold hasN
        rw [if_pos (by omega)]
        have : (64 - ((m : Int) + ((64 - bitlen (h * 2 ^ m % B64) : Nat) : Int) + 1)).toNat = bitlen (h * 2 ^ m % B64) - 1 - m := by omega
        rw [this]; exact w3
      · by_cases hk3 : 1 ≤ k
        · unfold hasN
          rw [if_pos (by omega)]
          exact w4 _ (by omega) (by omega)
        · exact hlow k (by omega)
  · rw [decide_eq_false (by omega), cond_false, i64_id (x := (m : Int) - 64) (by omega) (by omega)]
    have hsub : ((m : Int) - 64) = ((m - 64 : Nat) : Int) := by omega
    obtain ⟨sft, hs, hs1⟩ : ∃ sft : Nat, (if (64 : Int) < (m : Int) - 64 then (64 : Int) else (m : Int) - 64) = (sft : Int) ∧ sft ≤ 64 ∧ (sft < 64 → m = 64 + sft) ∧ (sft = 64 → 128 ≤ m) := by
      by_cases h0 : (64 : Int) < (m : Int) - 64
      · exact ⟨64, by rw [if_pos h0]; rfl, by omega, by omega, by omega⟩
      · exact ⟨m - 64, by rw [if_neg h0]; omega, by omega, by omega, by omega⟩
    simp only [hs]
    rw [decide_eq_false (by omega), cond_false]
    exact low sft m hs1.1 hs1.2.1 hs1.2.2 (by omega) (by omega) (fun k hk1 hk2 _ => by omega)
end Groat

/- Layer 25, the program's side: what a framer does, byte by byte. -/
set_option linter.unusedVariables false
set_option linter.unusedSimpArgs false
namespace Groat
open Go Go.Ref

theorem ofInt_nat (n a : Nat) (h : a < 2 ^ n) : (BitVec.ofInt n (a : Int)).toNat = a := by
  rw [BitVec.toNat_ofInt]
  have h2 : ((a : Int) % ((2 ^ n : Nat) : Int)) = ((a % 2 ^ n : Nat) : Int) := by rfl
  rw [h2, Int.toNat_natCast, Nat.mod_eq_of_lt h]
theorem ibits_or_nat {k : IntKind} {a b : Nat} (ha : a < 2 ^ k.bits) (hb : b < 2 ^ k.bits) : ibits .or k a b = k.wrap ((a ||| b : Nat) : Int) := by
  simp only [ibits, BitVec.toNat_or, ofInt_nat _ _ ha, ofInt_nat _ _ hb]
/-- Two bytes as a number. -/
def szB (b : List Int) : Int := if b.length < 2 then 0 else b.getD 0 0 * 256 + b.getD 1 0
theorem or_bytes {x y : Int} (hx : isByte x) (hy : isByte y) : ibits .or .i64 (IntKind.i64.wrap (IntKind.i64.wrap x * 2 ^ min (8 : Int).toNat 64)) (IntKind.i64.wrap y) = x * 256 + y := by
  unfold isByte at hx hy
  obtain ⟨x, rfl⟩ := Int.eq_ofNat_of_zero_le hx.1
  obtain ⟨y, rfl⟩ := Int.eq_ofNat_of_zero_le hy.1
  rw [i64_nat (by omega), i64_nat (by omega)]
  have h1 : ((x : Int) * (2 : Int) ^ min (8 : Int).toNat 64) = ((x <<< 8 : Nat) : Int) := by
    rw [Nat.shiftLeft_eq]; rfl
  have h3 : x <<< 8 = x * 256 := by rw [Nat.shiftLeft_eq]
  rw [h1, i64_nat (by omega), ibits_or_nat (by simp only [IntKind.bits]; omega) (by simp only [IntKind.bits]; omega), ← Nat.shiftLeft_add_eq_or_of_lt (by omega : y < 2 ^ 8), h3, i64_nat (by omega)]
  omega
theorem getD_byte {b : List Int} (hb : ∀ x ∈ b, isByte x) (i : Nat) : isByte (b.getD i 0) := by
  rw [List.getD_eq_getElem?_getD]
  cases h : b[i]? with
  | none => exact ⟨by simp, by simp⟩
  | some x => exact hb x (List.mem_of_getElem? h)
theorem szB_range {b : List Int} (hb : ∀ x ∈ b, isByte x) : 0 ≤ szB b ∧ szB b ≤ 65535 := by
  unfold szB
  have h0 := getD_byte hb 0
  have h1 := getD_byte hb 1
  unfold isByte at h0 h1
  split <;> omega
abbrev Fr := Int × Bool × List Int × Unit
theorem size_eq (m : Int) (d : Bool) (b : List Int) (hb : ∀ x ∈ b, isByte x) : frame_Framer_size (m, d, b, ()) = some (szB b, (m, d, b, ())) := by
  unfold frame_Framer_size frame_Framer_size_s0 szB
  simp only
  by_cases h : b.length < 2
  · rw [decide_eq_true (by omega : ((b.length : Int) < 2)), if_pos h]; rfl
  · rw [decide_eq_false (by omega : ¬ ((b.length : Int) < 2)), if_neg h, cond_false, within_int (by omega) (by omega), within_int (by omega) (by omega)]
    exact congrArg some (Prod.ext (or_bytes (getD_byte hb 0) (getD_byte hb 1)) rfl)
/-- A byte comes. -/
def fstep (m : Int) (st : Bool × List Int × List ByteArray) (c : Int) : Bool × List Int × List ByteArray :=
  if st.1 = true then st
  else if (st.2.1 ++ [c]).length = 2 ∧ (szB (st.2.1 ++ [c]) = 0 ∨ m < szB (st.2.1 ++ [c])) then (true, [], st.2.2)
  else if ((st.2.1 ++ [c]).length : Int) = 2 + szB (st.2.1 ++ [c]) ∧ 0 < szB (st.2.1 ++ [c]) then (false, [], st.2.2 ++ [strOf ((st.2.1 ++ [c]).drop 2)])
  else (false, st.2.1 ++ [c], st.2.2)
theorem fold_dead (m : Int) (l : List Int) (b : List Int) (o : List ByteArray) : l.foldl (fstep m) (true, b, o) = (true, b, o) := by
  induction l with
  | nil => rfl
  | cons c r ih => rw [List.foldl_cons]; have : fstep m (true, b, o) c = (true, b, o) := by simp [fstep]
                   rw [this, ih]
def feedOut (m : Int) (d : Bool) (r : Bool × List Int × List ByteArray) : Sum (List ByteArray × Bool × List ByteArray × Fr) (List ByteArray × Fr) :=
  if r.1 = true ∧ d = false then .inl (r.2.2, true, r.2.2, (m, true, [], ())) else .inr (r.2.2, (m, r.1, r.2.1, ()))
theorem fold_after (m : Int) (l : List Int) : ∀ (d : Bool) (b : List Int) (o : List ByteArray), d = false → (l.foldl (fstep m) (d, b, o)).1 = true → (l.foldl (fstep m) (d, b, o)).2.1 = [] := by
  induction l with
  | nil => intro d b o hd h; subst hd; cases h
  | cons c r ih =>
    intro d b o hd h
    subst hd
    rw [List.foldl_cons] at h ⊢
    generalize hst : fstep m (false, b, o) c = st at h ⊢
    obtain ⟨d', b', o'⟩ := st
    cases d' with
    | false => exact ih false b' o' rfl h
    | true =>
      rw [fold_dead]
      unfold fstep at hst
      simp only [Bool.false_eq_true, if_false] at hst
      split at hst
      · cases hst; rfl
      · split at hst <;> cases hst
theorem feed_loop (s : ByteArray) (m : Int) : ∀ (n j k : Nat) (o : List ByteArray) (d : Bool) (b : List Int), j + n = (bl s).length → n < k → (∀ x ∈ b, isByte x) → b.length + n ≤ 4398046511104 → o.length + n ≤ 4398046511104 → (bl s).length ≤ 4398046511104 →
    frame_Framer_Feed_l0 k s o j (m, d, b, ()) = some (feedOut m d (((bl s).drop j).foldl (fstep m) (d, b, o)))
  | 0, j, k, o, d, b, hj, hk, hb, h1, h2, h3 => by
    obtain ⟨k, rfl⟩ : ∃ k', k = k' + 1 := ⟨k - 1, by omega⟩
    rw [frame_Framer_Feed_l0, frame_Framer_Feed_s1]
    have hlt : ¬ ((j : Int) < (s.size : Int)) := by rw [← bl_length]; omega
    rw [decide_eq_false hlt, List.drop_eq_nil_of_le (by omega)]
    cases d <;> rfl
  | n + 1, j, k, o, d, b, hj, hk, hb, h1, h2, h3 => by
    obtain ⟨k, rfl⟩ : ∃ k', k = k' + 1 := ⟨k - 1, by omega⟩
    rw [frame_Framer_Feed_l0, frame_Framer_Feed_s1]
    have hlt : j < (bl s).length := by omega
    have hlt2 : ((j : Int) < (s.size : Int)) := by rw [← bl_length]; omega
    rw [decide_eq_true hlt2, cond_true, List.drop_eq_getElem_cons hlt, List.foldl_cons]
    cases d with
    | true =>
      have hs : fstep m (true, b, o) (bl s)[j] = (true, b, o) := by simp [fstep]
      rw [hs, fold_dead]
      simp [feedOut]
    | false =>
      have hc : byteAt s ((j : Int)).toNat = (bl s)[j] := by
        rw [bl_byteAt, Int.toNat_natCast, List.getD_eq_getElem?_getD, List.getElem?_eq_getElem hlt]; rfl
      have hbc : isByte (bl s)[j] := bl_byte (List.getElem_mem hlt)
      generalize hcv : (bl s)[j] = c at hc hbc
      rw [hc]
      have hb' : ∀ x ∈ b ++ [c], isByte x := fun x hx => by
        rcases List.mem_append.1 hx with h | h
        · exact hb x h
        · simp at h; subst h; exact hbc
      have hsz := size_eq m false (b ++ [c]) hb'
      have hr := szB_range hb'
      have hw : IntKind.i64.wrap ((2 : Int) + szB (b ++ [c])) = 2 + szB (b ++ [c]) := i64_id (by omega) (by omega)
      have hjw : IntKind.i64.wrap ((j : Int) + 1) = ((j + 1 : Nat) : Int) := i64_succ (by omega)
      have hl : (b ++ [c]).length = b.length + 1 := by simp
      rw [within_nat_lt (by rw [← bl_length]; exact hlt)]
      simp only [Bool.not_false, cond_true]
      rw [decide_eq_true (by simp; omega), cond_true, hsz]
      simp only [some_bind, hw, hjw]
      generalize hn : szB (b ++ [c]) = z at hr hw
      have ih := fun o d b => feed_loop s m n (j + 1) k o d b (by omega) (by omega)
      have hfs : fstep m (false, b, o) c = if (b ++ [c]).length = 2 ∧ (z = 0 ∨ m < z) then (true, [], o) else if ((b ++ [c]).length : Int) = 2 + z ∧ 0 < z then (false, [], o ++ [strOf ((b ++ [c]).drop 2)]) else (false, b ++ [c], o) := by
        unfold fstep; simp only [Bool.false_eq_true, if_false, hn]
      have dead : ∀ (l : List Int), feedOut m false (l.foldl (fstep m) (true, [], o)) = .inl (o, true, o, (m, true, [], ())) := fun l => by rw [fold_dead]; simp [feedOut]
      have hih1 := ih o false (b ++ [c]) hb' (by rw [hl]; omega) (by omega) h3
      have hih2 := ih (o ++ [strOf ((b ++ [c]).drop 2)]) false [] (by simp) (by simp; omega) (by simp; omega) h3
      have hdt : List.drop ((2 : Int)).toNat (List.take (b ++ [c]).length (b ++ [c])) = (b ++ [c]).drop 2 := by rw [List.take_length]; rfl
      simp only [hdt]
      have hnon : ∀ (x : Option (Sum (List ByteArray × Bool × List ByteArray × Fr) (List ByteArray × Fr))), (bif decide (((o.length + [strOf ((b ++ [c]).drop 2)].length) * 16 : Nat) ≤ 140737488355328) then x else none) = x := fun x => by
        rw [decide_eq_true (by simp; omega)]; rfl
      by_cases c1 : (b ++ [c]).length = 2
      · by_cases c2 : z = 0
        · rw [hfs, if_pos ⟨c1, .inl c2⟩, dead]
          simp [c1, c2]
        · by_cases c3 : m < z
          · rw [hfs, if_pos ⟨c1, .inr c3⟩, dead]
            simp [c1, c2, c3]
          · rw [hfs, if_neg (by simp [c2, c3])]
            have c4 : ¬ (((b ++ [c]).length : Int) = 2 + z) := by omega
            rw [if_neg (fun h => c4 h.1), ← hih1]
            have c1' : (((b ++ [c]).length : Int) = 2) := by omega
            rw [decide_eq_true c1', decide_eq_false c2, decide_eq_false c3, decide_eq_false c4]
            rfl
      · have c1' : ¬ (((b ++ [c]).length : Int) = 2) := by omega
        rw [hfs, if_neg (fun h => c1 h.1), decide_eq_false c1']
        by_cases c4 : ((b ++ [c]).length : Int) = 2 + z
        · by_cases c5 : 0 < z
          · rw [if_pos ⟨c4, c5⟩, ← hih2, decide_eq_true c4, decide_eq_true c5, decide_eq_true (by omega : (2 : Int) ≤ (((b ++ [c]).length : Nat) : Int))]
            simp only [cond_true, cond_false]
            rw [hnon]
          · rw [if_neg (fun h => c5 h.2), ← hih1, decide_eq_true c4, decide_eq_false c5]
            rfl
        · rw [if_neg (fun h => c4 h.1), ← hih1, decide_eq_false c4]
          rfl
/-- What a framer's Feed does. -/
def feed (f : Fr) (s : List Int) : List ByteArray × Bool × Fr :=
  ((s.foldl (fstep f.1) (f.2.1, f.2.2.1, [])).2.2, decide ((s.foldl (fstep f.1) (f.2.1, f.2.2.1, [])).1 = true ∧ f.2.1 = false), (f.1, (s.foldl (fstep f.1) (f.2.1, f.2.2.1, [])).1, (s.foldl (fstep f.1) (f.2.1, f.2.2.1, [])).2.1, ()))
theorem feed_eq (f : Fr) (s : ByteArray) (hb : ∀ x ∈ f.2.2.1, isByte x) (h1 : f.2.2.1.length + s.size ≤ 4398046511104) : frame_Framer_Feed f s = some (feed f (bl s)) := by
  obtain ⟨m, d, b, u⟩ := f
  cases u
  unfold frame_Framer_Feed frame_Framer_Feed_s0
  simp only at hb h1 ⊢
  have := feed_loop s m (bl s).length 0 FUEL [] d b (by omega) (by rw [fuel_eq, bl_length]; omega) hb (by rw [bl_length]; omega) (by simp; rw [bl_length]; omega) (by rw [bl_length]; omega)
  rw [show ((0 : Nat) : Int) = 0 from rfl] at this
  rw [this, some_bind, List.drop_zero]
  unfold feedOut feed
  simp only
  split
  · rename_i h
    obtain ⟨h4, h5⟩ := h
    subst h5
    have h3 := fold_after m (bl s) false b [] rfl h4
    simp [Sum.elim_inl, frame_Framer_Feed_s2, h3, h4]
  · rename_i h
    simp only [Sum.elim_inr, frame_Framer_Feed_s3]
    rw [decide_eq_false h]
end Groat

/- Layer 25, the document's side. -/
set_option linter.unusedVariables false
set_option linter.unusedSimpArgs false
namespace Groat
open Go Go.Ref

/-! ### Two lists, element by element -/
section
variable {α : Type} [DecidableEq α]
theorem same_loop' (d : α) (eq : α → α → Bool) (heq : ∀ x y, eq x y = true ↔ x = y) (a b : List α) (hl : a.length = b.length) (h : a.length ≤ 9223372036854775807) (L : Nat → Int → Option (Sum Bool Unit))
    (step : ∀ k (i : Int), L (k + 1) i = bif decide (i < (a.length : Int)) then within i a.length (within i b.length (bif !(eq (a.getD i.toNat d) (b.getD i.toNat d)) then some (.inl false) else L k (IntKind.i64.wrap (i + 1)))) else some (.inr ())) :
    ∀ (m j k : Nat), j + m = a.length → m < k → L k j = some (if a.drop j = b.drop j then .inr () else .inl false)
  | 0, j, k, hj, hk => by
    obtain ⟨k, rfl⟩ : ∃ k', k = k' + 1 := ⟨k - 1, by omega⟩
    rw [step, decide_eq_false (by omega), List.drop_eq_nil_of_le (by omega), List.drop_eq_nil_of_le (by omega)]
    simp
  | m + 1, j, k, hj, hk => by
    obtain ⟨k, rfl⟩ : ∃ k', k = k' + 1 := ⟨k - 1, by omega⟩
    have ha : j < a.length := by omega
    have hb : j < b.length := by omega
    rw [step, decide_eq_true (by omega), cond_true, within_nat_lt ha, within_nat_lt hb, i64_succ (by omega), same_loop' d eq heq a b hl h L step m (j + 1) k (by omega) (by omega), List.drop_eq_getElem_cons ha, List.drop_eq_getElem_cons hb, Int.toNat_natCast]
    have h1 : a.getD j d = a[j] := by rw [List.getD_eq_getElem?_getD, List.getElem?_eq_getElem ha]; rfl
    have h2 : b.getD j d = b[j] := by rw [List.getD_eq_getElem?_getD, List.getElem?_eq_getElem hb]; rfl
    rw [h1, h2]
    by_cases e : a[j] = b[j]
    · rw [(heq _ _).2 e, e]
      simp only [List.cons.injEq, true_and, Bool.not_true, cond_false]
    · have : eq a[j] b[j] = false := by
        cases hh : eq a[j] b[j] with
        | false => rfl
        | true => exact absurd ((heq _ _).1 hh) e
      rw [this]
      simp only [List.cons.injEq, e, false_and, if_false, Bool.not_false, cond_true]
theorem same_loop (d : α) (eq : α → α → Bool) (heq : ∀ x y, eq x y = true ↔ x = y) (a b : List α) (hl : a.length = b.length) (h : a.length ≤ maxLen) (L : Nat → Int → Option (Sum Bool Unit))
    (step : ∀ k (i : Int), L (k + 1) i = bif decide (i < (a.length : Int)) then within i a.length (within i b.length (bif !(eq (a.getD i.toNat d) (b.getD i.toNat d)) then some (.inl false) else L k (IntKind.i64.wrap (i + 1)))) else some (.inr ())) :
    L FUEL 0 = some (if a = b then .inr () else .inl false) := by
  have := same_loop' d eq heq a b hl (by rw [maxLen_eq] at h; exact h) L step a.length 0 FUEL (by omega) (by rw [fuel_eq]; rw [maxLen_eq] at h; omega)
  simpa using this
end
theorem ref25_Same_eq (a b : List ByteArray) (h : a.length ≤ maxLen) : groatref25_Same a b = some (decide (a = b)) := by
  unfold groatref25_Same groatref25_Same_s0
  by_cases hl : a.length = b.length
  · rw [decide_eq_true (by omega)]
    simp only [Bool.not_true, cond_false]
    rw [same_loop (bs []) (fun x y => decide (x = y)) (by simp) a b hl h (fun k i => groatref25_Same_l0 k a b i) (fun k i => rfl)]
    by_cases e : a = b
    · simp [e, groatref25_Same_s3]
    · simp [e, groatref25_Same_s2]
  · rw [decide_eq_false (by omega)]
    have : a ≠ b := fun e => hl (by rw [e])
    simp [this]

/-! ### Whole payloads of a stream -/
def segL (m : Int) (pos : Int) (l : List Int) : List ByteArray × List Int × List Int × Int :=
  if h : l.length < 2 then ([], l, [], -1)
  else if szB l = 0 ∨ m < szB l then ([], [], [], pos + 2)
  else if (l.length : Int) - 2 < szB l then ([], l, [], -1)
  else
    let r := segL m (pos + 2 + szB l) (l.drop (2 + (szB l).toNat))
    (strOf ((l.drop 2).take (szB l).toNat) :: r.1, r.2.1, (pos + 2 + szB l) :: r.2.2.1, r.2.2.2)
termination_by l.length
decreasing_by simp only [List.length_drop]; omega
def segFin (e : Sum (ByteArray × (List ByteArray) × Int × (List Int) × Int × (List ByteArray) × (List Int) × Int) (ByteArray × (List ByteArray) × (List Int) × Int)) : Option ((List ByteArray) × Int × (List Int) × Int) :=
  Sum.elim (fun we => some (we.2.1, we.2.2.1, we.2.2.2.1, we.2.2.2.2.1)) (fun we => some (we.2.1, IntKind.i64.wrap ((we.1.size : Int) - we.2.2.2), we.2.2.1, -1)) e
theorem drop_getD (l : List Int) (j i : Nat) : (l.drop j).getD i 0 = l.getD (j + i) 0 := by
  simp [List.getD_eq_getElem?_getD, List.getElem?_drop]
theorem seg_loop (m : Int) (s : ByteArray) (hs : (bl s).length ≤ 1099511627776) : ∀ (n j k : Nat) (o : List ByteArray) (e : List Int), (bl s).length - j ≤ n → j ≤ (bl s).length → n < k → o.length + n ≤ 2199023255552 → e.length + n ≤ 2199023255552 →
    (groatref25_Segment_l0 k m s o e j).bind segFin = some (o ++ (segL m j ((bl s).drop j)).1, ((segL m j ((bl s).drop j)).2.1.length : Int), e ++ (segL m j ((bl s).drop j)).2.2.1, (segL m j ((bl s).drop j)).2.2.2) := by
  intro n
  induction n using Nat.strongRecOn with
  | _ n ih =>
  intro j k o e hn hj hk ho he
  obtain ⟨k, rfl⟩ : ∃ k', k = k' + 1 := ⟨k - 1, by omega⟩
  rw [groatref25_Segment_l0, groatref25_Segment_s1]
  have hsz : s.size = (bl s).length := (bl_length s).symm
  generalize hl : (bl s).drop j = l
  have hll : l.length = (bl s).length - j := by rw [← hl, List.length_drop]
  have hsub : IntKind.i64.wrap ((s.size : Int) - (j : Int)) = ((l.length : Nat) : Int) := by
    rw [hsz, hll, i64_id (by omega) (by omega)]; omega
  rw [hsub, segL]
  by_cases c0 : l.length < 2
  · rw [decide_eq_false (by omega : ¬ ((2 : Int) ≤ (l.length : Int))), dif_pos c0]
    simp only [cond_false, some_bind, segFin, Sum.elim_inr]
    rw [hsub]
    simp
  rw [decide_eq_true (by omega : ((2 : Int) ≤ (l.length : Int))), cond_true, dif_neg c0]
  have hx : byteAt s ((j : Int)).toNat = l.getD 0 0 := by rw [bl_byteAt, ← hl, drop_getD]; simp
  have hj1 : IntKind.i64.wrap ((j : Int) + 1) = ((j + 1 : Nat) : Int) := i64_succ (by omega)
  have hj2 : IntKind.i64.wrap ((j : Int) + 2) = ((j + 2 : Nat) : Int) := by rw [i64_id (by omega) (by omega)]; omega
  have hy : byteAt s (((j + 1 : Nat) : Int)).toNat = l.getD 1 0 := by rw [bl_byteAt, ← hl, drop_getD]; simp
  have hlb : ∀ x ∈ l, isByte x := fun x hx => bl_byte (List.mem_of_mem_drop (by rw [hl]; exact hx))
  have bx := getD_byte hlb 0
  have b_y := getD_byte hlb 1
  have hz := szB_range hlb
  have hzz : szB l = l.getD 0 0 * 256 + l.getD 1 0 := by unfold szB; rw [if_neg c0]
  unfold isByte at bx b_y
  have w1 : IntKind.i64.wrap (l.getD 0 0) = l.getD 0 0 := i64_id (by omega) (by omega)
  have w2 : IntKind.i64.wrap (l.getD 1 0) = l.getD 1 0 := i64_id (by omega) (by omega)
  have w3 : IntKind.i64.wrap (l.getD 0 0 * 256) = l.getD 0 0 * 256 := i64_id (by omega) (by omega)
  have w4 : IntKind.i64.wrap (l.getD 0 0 * 256 + l.getD 1 0) = szB l := by rw [← hzz]; exact i64_id (by omega) (by omega)
  generalize szB l = z at *
  have w5 : IntKind.i64.wrap (((j + 2 : Nat) : Int) + z) = ((j + 2 + z.toNat : Nat) : Int) := by rw [i64_id (by omega) (by omega)]; omega
  have w6 : IntKind.i64.wrap (((l.length : Nat) : Int) - 2) = (l.length : Int) - 2 := i64_id (by omega) (by omega)
  simp only [hj1, hj2, hx, hy, w1, w2, w3, w4, w5, w6]
  rw [within_nat_lt (by omega), within_nat_lt (by omega)]
  by_cases c1 : z = 0
  · rw [decide_eq_true c1, if_pos (.inl c1)]
    simp [segFin]
  rw [decide_eq_false c1, cond_false]
  by_cases c2 : m < z
  · rw [decide_eq_true c2, if_pos (.inr c2)]
    simp [segFin]
  rw [decide_eq_false c2, if_neg (by simp [c1, c2]), cond_false]
  by_cases c3 : (l.length : Int) - 2 < z
  · rw [decide_eq_true c3, if_pos c3]
    simp [segFin, hsub]
  rw [decide_eq_false c3, if_neg c3]
  simp only [cond_false]
  rw [decide_eq_true (by omega : (0 : Int) ≤ ((j + 2 + z.toNat : Nat) : Int)), decide_eq_true (by omega : ((j + 2 + z.toNat : Nat) : Int) ≤ ((s.size : Nat) : Int)), decide_eq_true (by omega : (0 : Int) ≤ ((j + 2 : Nat) : Int))]
  simp only [cond_true, Int.toNat_natCast]
  rw [decide_eq_true (by omega : ((j + 2 : Nat) : Int) ≤ ((j + 2 + z.toNat : Nat) : Int)), decide_eq_true (by simp; omega), decide_eq_true (by simp; omega)]
  simp only [cond_true]
  have hst : s.extract (j + 2) (j + 2 + z.toNat) = strOf ((l.drop 2).take z.toNat) := by
    apply bl_inj
    rw [bl_strOf (fun x hx => hlb x (List.mem_of_mem_drop (List.mem_of_mem_take hx))), bl_extract, ← hl, List.drop_drop, List.drop_take]
    congr 1
    omega
  have := ih (n - (2 + z.toNat)) (by omega) (j + 2 + z.toNat) k (o ++ [s.extract (j + 2) (j + 2 + z.toNat)]) (e ++ [((j + 2 + z.toNat : Nat) : Int)]) (by omega) (by omega) (by omega) (by simp; omega) (by simp; omega)
  rw [this, hst]
  have hd : (bl s).drop (j + 2 + z.toNat) = l.drop (2 + z.toNat) := by rw [← hl, List.drop_drop]; congr 1; omega
  rw [hd]
  have hp : ((j + 2 + z.toNat : Nat) : Int) = (j : Int) + 2 + z := by omega
  rw [hp]
  simp
theorem ref25_Segment_eq (m : Int) (s : ByteArray) (hs : s.size ≤ 1099511627776) : groatref25_Segment m s = some ((segL m 0 (bl s)).1, ((segL m 0 (bl s)).2.1.length : Int), (segL m 0 (bl s)).2.2.1, (segL m 0 (bl s)).2.2.2) := by
  have := seg_loop m s (by rw [bl_length]; exact hs) (bl s).length 0 FUEL [] [] (by omega) (by omega) (by rw [fuel_eq, bl_length]; omega) (by simp; rw [bl_length]; omega) (by simp; rw [bl_length]; omega)
  unfold groatref25_Segment groatref25_Segment_s0
  rw [show ((0 : Nat) : Int) = 0 from rfl] at this
  simp only [List.drop_zero, List.nil_append] at this
  exact this
end Groat

/- Layer 5, the document's side. -/
set_option linter.unusedVariables false
set_option linter.unusedSimpArgs false
namespace Groat
open Go Go.Ref

theorem getD_int {l : List Int} {j : Nat} (h : j < l.length) : l.getD ((j : Int)).toNat 0 = l[j] := by
  rw [Int.toNat_natCast, List.getD_eq_getElem?_getD, List.getElem?_eq_getElem h]; rfl
theorem in05_loop (l : List Int) (n : Int) (hl : l.length ≤ maxLen) : ∀ (m j k : Nat), j + m = l.length → m < k →
    groatref05_In_l0 k l n j = some (if n ∈ l.drop j then .inl true else .inr ()) := by
  intro m
  rw [maxLen_eq] at hl
  induction m with
  | zero =>
    intro j k hj hk
    obtain ⟨k, rfl⟩ : ∃ k', k = k' + 1 := ⟨k - 1, by omega⟩
    rw [groatref05_In_l0, groatref05_In_s1, decide_eq_false (by omega), List.drop_eq_nil_of_le (by omega)]; simp
  | succ m ih =>
    intro j k hj hk
    obtain ⟨k, rfl⟩ : ∃ k', k = k' + 1 := ⟨k - 1, by omega⟩
    have hlt : j < l.length := by omega
    rw [groatref05_In_l0, groatref05_In_s1, decide_eq_true (by omega), cond_true, within_nat_lt hlt, getD_int hlt, i64_succ (by omega), List.drop_eq_getElem_cons hlt]
    by_cases h : l[j] = n
    · rw [decide_eq_true h, if_pos (by rw [h]; simp)]; rfl
    · rw [decide_eq_false h, cond_false, ih (j + 1) k (by omega) (by omega)]
      have : n ≠ l[j] := fun e => h e.symm
      simp only [List.mem_cons, this, false_or]
theorem In05_eq (l : List Int) (n : Int) (hl : l.length ≤ maxLen) : groatref05_In l n = some (decide (n ∈ l)) := by
  unfold groatref05_In groatref05_In_s0
  dsimp only
  have := in05_loop l n hl l.length 0 FUEL (by omega) (by rw [fuel_eq]; rw [maxLen_eq] at hl; omega)
  rw [show ((0 : Nat) : Int) = 0 from rfl, List.drop_zero] at this
  rw [this, some_bind]
  by_cases h : n ∈ l
  · rw [if_pos h, decide_eq_true h]; rfl
  · rw [if_neg h, decide_eq_false h]; rfl
theorem has05_loop : ∀ (m : Nat) (x j n k : Nat), x < B64 → j + m = n → n ≤ 200 → m < k → groatref05_Has_l0 k (x : Int) n j = some ((x / 2 ^ m : Nat) : Int) := by
  intro m
  induction m with
  | zero =>
    intro x j n k hx hj hn hk
    obtain ⟨k, rfl⟩ : ∃ k', k = k' + 1 := ⟨k - 1, by omega⟩
    rw [groatref05_Has_l0, groatref05_Has_s1, decide_eq_false (by omega)]; simp
  | succ m ih =>
    intro x j n k hx hj hn hk
    obtain ⟨k, rfl⟩ : ∃ k', k = k' + 1 := ⟨k - 1, by omega⟩
    have hx : x < 18446744073709551616 := hx
    rw [groatref05_Has_l0, groatref05_Has_s1, decide_eq_true (by omega), cond_true, i64_succ (by omega), Int.tdiv_eq_ediv_of_nonneg (by omega)]
    have e : IntKind.u64.wrap ((x : Int) / 2) = ((x / 2 : Nat) : Int) := by
      rw [u64_id (by omega) (by omega)]; omega
    rw [e, ih (x / 2) (j + 1) n k (by show x / 2 < 18446744073709551616; omega) (by omega) hn (by omega), Nat.div_div_eq_div_mul, ← Nat.pow_succ']
theorem Has05_eq (h l : Nat) (hh : h < B64) (hl : l < B64) (n : Int) : groatref05_Has (h : Int) (l : Int) n = some (hasN h l n) := by
  unfold groatref05_Has groatref05_Has_s0 hasN
  have fin : ∀ (x : Nat) (i : Nat), decide (Int.tmod ((x / 2 ^ i : Nat) : Int) 2 = 1) = x.testBit i := by
    intro x i
    rw [Nat.testBit_eq_decide_div_mod_eq, Int.tmod_eq_emod_of_nonneg (Int.natCast_nonneg _)]
    generalize x / 2 ^ i = q
    exact decide_eq_decide.2 (by omega)
  by_cases h1 : n < 1
  · rw [decide_eq_true h1, if_neg (by omega), if_neg (by omega)]; rfl
  rw [decide_eq_false h1, cond_false]
  by_cases h2 : 128 < n
  · rw [decide_eq_true h2, if_neg (by omega), if_neg (by omega)]; rfl
  rw [decide_eq_false h2, cond_false]
  by_cases h3 : 64 < n
  · rw [decide_eq_true h3, cond_true, if_neg (by omega), if_pos (by omega), i64_id (by omega) (by omega)]
    have := has05_loop (128 - n).toNat l 0 (128 - n).toNat FUEL hl (by omega) (by omega) (by rw [fuel_eq]; omega)
    have e : (((128 - n).toNat : Nat) : Int) = 128 - n := by omega
    rw [e] at this
    have e2 : groatref05_Has_l0 FUEL (l : Int) (128 - n) 0 = _ := this
    dsimp only
    rw [e2, some_bind]
    simp only [groatref05_Has_s2, fin]
  · rw [decide_eq_false h3, cond_false, if_pos (by omega), i64_id (by omega) (by omega)]
    have := has05_loop (64 - n).toNat h 0 (64 - n).toNat FUEL hh (by omega) (by omega) (by rw [fuel_eq]; omega)
    have e : (((64 - n).toNat : Nat) : Int) = 64 - n := by omega
    rw [e] at this
    have e2 : groatref05_Has_l0 FUEL (h : Int) (64 - n) 0 = _ := this
    dsimp only
    rw [e2, some_bind]
    simp only [groatref05_Has_s2, fin]
theorem nums_at {j : Nat} (h : j < nums.length) : nums[j] = ((j + 1 : Nat) : Int) := by
  unfold nums; simp
theorem nums_len : nums.length = 128 := by unfold nums; simp
theorem list05_loop (h l : Nat) (hh : h < B64) (hl : l < B64) : ∀ (m j k : Nat) (o : List Int), j + m = 128 → m < k → o.length ≤ j →
    groatref05_List_l0 k (h : Int) (l : Int) o ((j + 1 : Nat) : Int) = some (o ++ (nums.drop j).filter (hasN h l)) := by
  intro m
  induction m with
  | zero =>
    intro j k o hj hk ho
    obtain ⟨k, rfl⟩ : ∃ k', k = k' + 1 := ⟨k - 1, by omega⟩
    rw [groatref05_List_l0, groatref05_List_s1, decide_eq_false (by omega), List.drop_eq_nil_of_le (by rw [nums_len]; omega)]; simp
  | succ m ih =>
    intro j k o hj hk ho
    obtain ⟨k, rfl⟩ : ∃ k', k = k' + 1 := ⟨k - 1, by omega⟩
    have hlt : j < nums.length := by rw [nums_len]; omega
    rw [groatref05_List_l0, groatref05_List_s1, decide_eq_true (by omega), cond_true, Has05_eq h l hh hl, some_bind, i64_succ (by omega), List.drop_eq_getElem_cons hlt, nums_at hlt, List.filter_cons]
    cases hb : hasN h l ((j + 1 : Nat) : Int) with
    | false =>
      rw [cond_false, ih (j + 1) k o (by omega) (by omega) (by omega)]; rfl
    | true =>
      rw [cond_true, decide_eq_true (by simp; omega), cond_true, ih (j + 1) k _ (by omega) (by omega) (by simp; omega)]
      simp
theorem List05_eq (h l : Nat) (hh : h < B64) (hl : l < B64) : groatref05_List (h : Int) (l : Int) = some (elems h l) := by
  unfold groatref05_List groatref05_List_s0
  dsimp only
  have := list05_loop h l hh hl 128 0 FUEL [] (by omega) (by rw [fuel_eq]; omega) (by simp)
  have e : groatref05_List_l0 FUEL (h : Int) (l : Int) [] 1 = _ := this
  rw [e, some_bind]
  simp [groatref05_List_s2, elems]
theorem next05_loop (h l : Nat) (hh : h < B64) (hl : l < B64) (n : Int) : ∀ (m j k : Nat), j + m = 128 → m < k →
    groatref05_Next_l0 k (h : Int) (l : Int) n ((j + 1 : Nat) : Int) = some (match (nums.drop j).filter (fun x => decide (n < x) && hasN h l x) with | [] => .inr () | x :: _ => .inl x) := by
  intro m
  induction m with
  | zero =>
    intro j k hj hk
    obtain ⟨k, rfl⟩ : ∃ k', k = k' + 1 := ⟨k - 1, by omega⟩
    rw [groatref05_Next_l0, groatref05_Next_s1, decide_eq_false (by omega), List.drop_eq_nil_of_le (by rw [nums_len]; omega)]; rfl
  | succ m ih =>
    intro j k hj hk
    obtain ⟨k, rfl⟩ : ∃ k', k = k' + 1 := ⟨k - 1, by omega⟩
    have hlt : j < nums.length := by rw [nums_len]; omega
    rw [groatref05_Next_l0, groatref05_Next_s1, decide_eq_true (by omega), cond_true, i64_succ (by omega), List.drop_eq_getElem_cons hlt, nums_at hlt, List.filter_cons]
    by_cases h1 : n < ((j + 1 : Nat) : Int)
    · rw [decide_eq_true h1, cond_true, Has05_eq h l hh hl, some_bind]
      cases hb : hasN h l ((j + 1 : Nat) : Int) with
      | false =>
        rw [cond_false, ih (j + 1) k (by omega) (by omega)]; rfl
      | true => rfl
    · rw [decide_eq_false h1, cond_false, ih (j + 1) k (by omega) (by omega)]; rfl
theorem Next05_eq (h l : Nat) (hh : h < B64) (hl : l < B64) (n : Int) : groatref05_Next (h : Int) (l : Int) n = some (nextN h l n) := by
  unfold groatref05_Next groatref05_Next_s0
  dsimp only
  have := next05_loop h l hh hl n 128 0 FUEL (by omega) (by rw [fuel_eq]; omega)
  have e : groatref05_Next_l0 FUEL (h : Int) (l : Int) n 1 = _ := this
  rw [e, some_bind, List.drop_zero]
  unfold nextN elems
  rw [List.filter_filter]
  cases nums.filter (fun x => decide (n < x) && hasN h l x) <;> rfl
theorem Same05_eq (a b : List Int) (h : a.length ≤ maxLen) : groatref05_Same a b = some (decide (a = b)) := by
  unfold groatref05_Same groatref05_Same_s0
  by_cases hl : a.length = b.length
  · rw [decide_eq_true (by omega)]
    simp only [Bool.not_true, cond_false]
    rw [same_loop (0 : Int) (fun x y => decide (x = y)) (by simp) a b hl h (fun k i => groatref05_Same_l0 k a b i) (fun k i => rfl)]
    by_cases e : a = b
    · simp [e, groatref05_Same_s3]
    · simp [e, groatref05_Same_s2]
  · rw [decide_eq_false (by omega)]
    have : a ≠ b := fun e => hl (by rw [e])
    simp [this]
/-- The bits of the numbers base+1 .. base+m of a list. -/
def wordV (l : List Int) (base : Nat) : Nat → Nat
  | 0 => 0
  | m + 1 => 2 * wordV l base m + (if ((base + m + 1 : Nat) : Int) ∈ l then 1 else 0)
theorem wordV_succ (l : List Int) (base m : Nat) : wordV l base (m + 1) = 2 * wordV l base m + (if ((base + m + 1 : Nat) : Int) ∈ l then 1 else 0) := rfl
theorem wordV_lt (l : List Int) (base : Nat) : ∀ m, wordV l base m < 2 ^ m
  | 0 => by simp [wordV]
  | m + 1 => by
    have := wordV_lt l base m
    rw [wordV, Nat.pow_succ]
    split <;> omega
theorem wordV_bit (l : List Int) (base : Nat) : ∀ m i, i < m → (wordV l base m).testBit i = decide (((base + m - i : Nat) : Int) ∈ l)
  | 0, i, h => absurd h (Nat.not_lt_zero i)
  | m + 1, 0, h => by
    rw [wordV, Nat.testBit_zero, Nat.sub_zero]
    have e : base + (m + 1) = base + m + 1 := by omega
    rw [e]
    by_cases hm : ((base + m + 1 : Nat) : Int) ∈ l
    · rw [if_pos hm, decide_eq_true hm]
      exact decide_eq_true (by omega)
    · rw [if_neg hm, decide_eq_false hm]
      exact decide_eq_false (by omega)
  | m + 1, i + 1, h => by
    rw [wordV, Nat.testBit_succ]
    have e : (2 * wordV l base m + (if ((base + m + 1 : Nat) : Int) ∈ l then 1 else 0)) / 2 = wordV l base m := by split <;> omega
    rw [e, wordV_bit l base m i (by omega)]
    have e2 : base + (m + 1) - (i + 1) = base + m - i := by omega
    rw [e2]
theorem word_has (l : List Int) (n : Int) : hasN (wordV l 0 64) (wordV l 64 64) n = (decide (n ∈ l) && inR n) := by
  unfold hasN inR
  by_cases h1 : 1 ≤ n ∧ n ≤ 64
  · rw [if_pos h1, wordV_bit l 0 64 _ (by omega), decide_eq_true (p := 1 ≤ n ∧ n ≤ 128) (by omega), Bool.and_true]
    have : ((0 + 64 - (64 - n).toNat : Nat) : Int) = n := by omega
    rw [this]
  · rw [if_neg h1]
    by_cases h2 : 65 ≤ n ∧ n ≤ 128
    · rw [if_pos h2, wordV_bit l 64 64 _ (by omega), decide_eq_true (p := 1 ≤ n ∧ n ≤ 128) (by omega), Bool.and_true]
      have : ((64 + 64 - (128 - n).toNat : Nat) : Int) = n := by omega
      rw [this]
    · rw [if_neg h2, decide_eq_false (p := 1 ≤ n ∧ n ≤ 128) (by omega), Bool.and_false]
theorem halves05_loop (l : List Int) (hl : l.length ≤ maxLen) : ∀ (m j k : Nat), j + m = 128 → m < k →
    groatref05_Halves_l0 k l (wordV l 0 (min j 64) : Int) (wordV l 64 (j - 64) : Int) ((j + 1 : Nat) : Int) = some ((wordV l 0 64 : Int), (wordV l 64 64 : Int)) := by
  intro m
  induction m with
  | zero =>
    intro j k hj hk
    obtain ⟨k, rfl⟩ : ∃ k', k = k' + 1 := ⟨k - 1, by omega⟩
    rw [groatref05_Halves_l0, groatref05_Halves_s1, decide_eq_false (by omega)]
    have : j = 128 := by omega
    subst this; rfl
  | succ m ih =>
    intro j k hj hk
    obtain ⟨k, rfl⟩ : ∃ k', k = k' + 1 := ⟨k - 1, by omega⟩
    rw [groatref05_Halves_l0, groatref05_Halves_s1, decide_eq_true (by omega), cond_true, i64_succ (by omega)]
    have step : ∀ (v : Nat), v < 2 ^ 63 → IntKind.u64.wrap ((v : Int) * 2) = ((2 * v : Nat) : Int) ∧ IntKind.u64.wrap (((2 * v : Nat) : Int) + 1) = ((2 * v + 1 : Nat) : Int) := by
      intro v hv
      rw [u64_id (by omega) (by omega), u64_id (by omega) (by omega)]
      omega
    have ihj := ih (j + 1) k (by omega) (by omega)
    rw [In05_eq l _ hl]
    by_cases h1 : ((j + 1 : Nat) : Int) ≤ 64
    · rw [decide_eq_true h1, cond_true, some_bind]
      have e1 : min j 64 = j := by omega
      have e2 : min (j + 1) 64 = j + 1 := by omega
      have e3 : j + 1 - 64 = j - 64 := by omega
      have hlt : wordV l 0 j < 2 ^ 63 := Nat.lt_of_lt_of_le (wordV_lt l 0 j) (Nat.pow_le_pow_right (by decide) (by omega))
      rw [e2, e3, wordV_succ l 0 j, Nat.zero_add] at ihj
      rw [e1, (step _ hlt).1]
      by_cases hm : ((j + 1 : Nat) : Int) ∈ l
      · rw [decide_eq_true hm, cond_true, (step _ hlt).2]
        rw [if_pos hm] at ihj; exact ihj
      · rw [decide_eq_false hm, cond_false]
        rw [if_neg hm] at ihj; exact ihj
    · rw [decide_eq_false h1, cond_false, some_bind]
      have e1 : min j 64 = 64 := by omega
      have e2 : min (j + 1) 64 = 64 := by omega
      have e3 : j + 1 - 64 = (j - 64) + 1 := by omega
      have hlt : wordV l 64 (j - 64) < 2 ^ 63 := Nat.lt_of_lt_of_le (wordV_lt l 64 _) (Nat.pow_le_pow_right (by decide) (by omega))
      have e4 : 64 + (j - 64) + 1 = j + 1 := by omega
      rw [e2, e3, wordV_succ l 64 (j - 64), e4] at ihj
      rw [e1, (step _ hlt).1]
      by_cases hm : ((j + 1 : Nat) : Int) ∈ l
      · rw [decide_eq_true hm, cond_true, (step _ hlt).2]
        rw [if_pos hm] at ihj; exact ihj
      · rw [decide_eq_false hm, cond_false]
        rw [if_neg hm] at ihj; exact ihj
theorem word_set (l : List Int) : wordV l 0 64 = setH l ∧ wordV l 64 64 = setL l :=
  set_ext (wordV_lt l 0 64) (wordV_lt l 64 64) (setH_lt l) (setL_lt l) (fun n _ _ => by rw [word_has, set_has])
theorem Halves05_eq (l : List Int) (hl : l.length ≤ maxLen) : groatref05_Halves l = some ((setH l : Int), (setL l : Int)) := by
  unfold groatref05_Halves groatref05_Halves_s0
  dsimp only
  have := halves05_loop l hl 128 0 FUEL (by omega) (by rw [fuel_eq]; omega)
  have e : groatref05_Halves_l0 FUEL l 0 0 1 = _ := this
  rw [e, some_bind, (word_set l).1, (word_set l).2]; rfl
end Groat

/- Layers 11 and 13: when specs and schemas may be. -/
set_option linter.unusedVariables false
set_option linter.unusedSimpArgs false
namespace Groat
open Go Go.Ref

abbrev Spec := Int × Int × Int × Int × Int × Unit
abbrev Schema := Int × Int × List Spec × Unit
abbrev spec0 : Spec := (0, 0, 0, 0, 0, ())
theorem sets_eq (c : Int) : class_sets c = some (if c = 1 then 1 else if c = 2 then 2 else if c = 3 then 3 else if c = 4 then 7 else if c = 5 then 15 else if c = 6 then 15 else 0) := by
  unfold class_sets class_sets_s0
  simp only [bif_dec]
  repeat' split
  all_goals rfl
theorem Known_eq (c : Int) : class_Known c = some (decide (1 ≤ c ∧ c ≤ 6)) := by
  unfold class_Known class_Known_s0
  rw [sets_eq, some_bind]
  congr 1
  by_cases h1 : c = 1
  · subst h1; rfl
  by_cases h2 : c = 2
  · subst h2; rfl
  by_cases h3 : c = 3
  · subst h3; rfl
  by_cases h4 : c = 4
  · subst h4; rfl
  by_cases h5 : c = 5
  · subst h5; rfl
  by_cases h6 : c = 6
  · subst h6; rfl
  rw [if_neg h1, if_neg h2, if_neg h3, if_neg h4, if_neg h5, if_neg h6, decide_eq_false (p := 1 ≤ c ∧ c ≤ 6) (by omega)]
  rfl
theorem Most2 : prefix_Most 2 = some 99 := by kernel_rfl
theorem Most3 : prefix_Most 3 = some 999 := by kernel_rfl
def specC (s : Spec) : Int :=
  if s.1 < 2 ∨ 128 < s.1 then 1 else if s.2.1 < 1 ∨ 6 < s.2.1 then 6 else if s.2.2.1 < 1 ∨ 3 < s.2.2.1 then 3
  else if s.2.2.2.1 < 1 ∨ s.2.2.2.2.1 < s.2.2.2.1 ∨ (s.2.2.1 = 2 ∧ 99 < s.2.2.2.2.1) ∨ 999 < s.2.2.2.2.1 ∨ (s.2.2.1 = 1 ∧ ¬ s.2.2.2.1 = s.2.2.2.2.1) then 5
  else if s.2.2.1 = 1 ∧ s.2.1 = 6 then 13 else 0
theorem specCheck_eq (s : Spec) : spec_Check s = some (specC s) := by
  obtain ⟨no, c, f, mn, mx, u⟩ := s
  unfold spec_Check spec_Check_s0 specC
  simp only [Known_eq, some_bind]
  by_cases h1 : no < 2 ∨ 128 < no
  · rw [if_pos h1]
    rcases h1 with h | h
    · rw [decide_eq_true h]; rfl
    · rw [decide_eq_true h]; cases decide (no < 2) <;> rfl
  rw [if_neg h1, decide_eq_false (by omega), decide_eq_false (by omega)]
  by_cases h2 : c < 1 ∨ 6 < c
  · rw [if_pos h2, decide_eq_false (p := 1 ≤ c ∧ c ≤ 6) (by omega)]; rfl
  rw [if_neg h2, decide_eq_true (p := 1 ≤ c ∧ c ≤ 6) (by omega)]
  simp only [cond_false, Bool.not_true]
  by_cases h3 : f < 1 ∨ 3 < f
  · rw [if_pos h3]
    rcases h3 with h | h
    · rw [decide_eq_true h]; rfl
    · rw [decide_eq_true h]; cases decide (f < 1) <;> rfl
  rw [if_neg h3, decide_eq_false (by omega), decide_eq_false (by omega)]
  simp only [cond_false]
  by_cases h4 : mn < 1 ∨ mx < mn ∨ 999 < mx
  · rw [if_pos (by omega)]
    by_cases a : mn < 1
    · rw [decide_eq_true a]; rfl
    rw [decide_eq_false a]
    by_cases b : mx < mn
    · rw [decide_eq_true b]; rfl
    rw [decide_eq_false b, decide_eq_true (by omega)]; rfl
  rw [decide_eq_false (by omega), decide_eq_false (by omega), decide_eq_false (by omega)]
  simp only [cond_false]
  by_cases f1 : f = 1
  · rw [decide_eq_true f1]
    simp only [cond_true, Bool.not_true, cond_false]
    by_cases e : mn = mx
    · rw [decide_eq_true e, if_neg (by omega)]
      by_cases e6 : c = 6
      · rw [decide_eq_true e6, if_pos (by omega)]; rfl
      · rw [decide_eq_false e6, if_neg (by omega)]; rfl
    · rw [decide_eq_false e, if_pos (by omega)]; rfl
  · rw [decide_eq_false f1]
    simp only [cond_false, Bool.not_false, cond_true]
    by_cases f2 : f = 2
    · subst f2
      rw [Most2, some_bind]
      by_cases h : 99 < mx
      · rw [decide_eq_true h, if_pos (by omega)]; rfl
      · rw [decide_eq_false h, if_neg (by omega), if_neg (by omega)]; rfl
    · have f3 : f = 3 := by omega
      subst f3
      rw [Most3, some_bind, decide_eq_false (by omega), if_neg (by omega), if_neg (by omega)]; rfl
theorem specCheck11_eq (s : Spec) : groatref11_Check s = some (specC s) := by
  obtain ⟨no, c, f, mn, mx, u⟩ := s
  unfold groatref11_Check groatref11_Check_s0 specC
  simp only
  by_cases h1 : no < 2 ∨ 128 < no
  · rw [if_pos h1]
    rcases h1 with h | h
    · rw [decide_eq_true h]; rfl
    · rw [decide_eq_true h]; cases decide (no < 2) <;> rfl
  rw [if_neg h1, decide_eq_false (by omega), decide_eq_false (by omega)]
  by_cases h2 : c < 1 ∨ 6 < c
  · rw [if_pos h2]
    rcases h2 with h | h
    · rw [decide_eq_true h]; rfl
    · rw [decide_eq_true h]; cases decide (c < 1) <;> rfl
  rw [if_neg h2, decide_eq_false (by omega), decide_eq_false (by omega)]
  by_cases h3 : f < 1 ∨ 3 < f
  · rw [if_pos h3]
    rcases h3 with h | h
    · rw [decide_eq_true h]; rfl
    · rw [decide_eq_true h]; cases decide (f < 1) <;> rfl
  rw [if_neg h3, decide_eq_false (by omega), decide_eq_false (by omega)]
  simp only [cond_false]
  by_cases f1 : f = 1
  · rw [decide_eq_true f1, decide_eq_false (by omega : ¬ f = 2)]
    simp only [cond_true, cond_false]
    by_cases a : mn < 1
    · rw [decide_eq_true a, if_pos (by omega)]; rfl
    rw [decide_eq_false a]
    by_cases b : mx < mn
    · rw [decide_eq_true b, if_pos (by omega)]; rfl
    rw [decide_eq_false b]
    by_cases d : 999 < mx
    · rw [decide_eq_true d, if_pos (by omega)]; rfl
    rw [decide_eq_false d]
    by_cases e : mn = mx
    · rw [decide_eq_true e, if_neg (by omega)]
      by_cases e6 : c = 6
      · rw [decide_eq_true e6, if_pos (by omega)]; rfl
      · rw [decide_eq_false e6, if_neg (by omega)]; rfl
    · rw [decide_eq_false e, if_pos (by omega)]; rfl
  · rw [decide_eq_false f1]
    simp only [cond_false]
    by_cases f2 : f = 2
    · rw [decide_eq_true f2]
      simp only [cond_true]
      by_cases a : mn < 1
      · rw [decide_eq_true a, if_pos (by omega)]; rfl
      rw [decide_eq_false a]
      by_cases b : mx < mn
      · rw [decide_eq_true b, if_pos (by omega)]; rfl
      rw [decide_eq_false b]
      by_cases d : 99 < mx
      · rw [decide_eq_true d, if_pos (by omega)]; rfl
      rw [decide_eq_false d, if_neg (by omega), if_neg (by omega)]; rfl
    · rw [decide_eq_false f2]
      simp only [cond_false]
      by_cases a : mn < 1
      · rw [decide_eq_true a, if_pos (by omega)]; rfl
      rw [decide_eq_false a]
      by_cases b : mx < mn
      · rw [decide_eq_true b, if_pos (by omega)]; rfl
      rw [decide_eq_false b]
      by_cases d : 999 < mx
      · rw [decide_eq_true d, if_pos (by omega)]; rfl
      rw [decide_eq_false d, if_neg (by omega), if_neg (by omega)]; rfl

/-! ### A schema: what is wrong with its specs, from the i-th on, behind one with a number -/
def specsC : List Spec → Int → Int → Int × Int
  | [], _, _ => (0, 0)
  | x :: r, i, last => if specC x ≠ 0 then (specC x, i) else if x.1 ≤ last then (11, i) else specsC r (i + 1) x.1
def schemaC (s : Schema) : Int × Int :=
  if ¬ (s.1 = 1 ∨ s.1 = 2) then (1, -1) else if s.2.1 < 0 ∨ 9 < s.2.1 then (7, -1) else specsC s.2.2.1 0 0
theorem specC_no {x : Spec} (h : specC x = 0) : 2 ≤ x.1 ∧ x.1 ≤ 128 := by
  unfold specC at h
  split at h
  · cases h
  · omega
def excC (e : Sum (Int × Int) Unit) : Option (Int × Int) := Sum.elim (fun we => some (we.1, we.2)) (fun _ => some (0, 0)) e
theorem exc_specs (l : List Spec) : ∀ (i : Int) (last : Int), excC (if (specsC l i last).1 = 0 then .inr () else .inl (specsC l i last)) = some (specsC l i last) := by
  intro i last
  by_cases h : (specsC l i last).1 = 0
  · rw [if_pos h]
    have : specsC l i last = (0, 0) := by
      induction l generalizing i last with
      | nil => rfl
      | cons x r ih =>
        unfold specsC at h ⊢
        split
        · rename_i h1; rw [if_pos h1] at h; exact absurd h h1
        · rename_i h1
          rw [if_neg h1] at h
          split
          · rename_i h2; rw [if_pos h2] at h; cases h
          · rename_i h2; rw [if_neg h2] at h; exact ih _ _ h
    rw [this]; rfl
  · rw [if_neg h]; rfl
theorem check13_loop (s : Schema) (hl : s.2.2.1.length ≤ maxLen) : groatref13_Check_l0 FUEL 0 0 s = some (if (specsC s.2.2.1 0 0).1 = 0 then .inr () else .inl (specsC s.2.2.1 0 0)) := by
  have h := loopJ spec0 s.2.2.1 hl (fun i x (last : Int) K => if specC x ≠ 0 then some (.inl (specC x, i)) else if x.1 ≤ last then some (.inl (11, i)) else K x.1) (fun _ => some (.inr ())) (fun k i last => groatref13_Check_l0 k last i s)
    (fun k i last h0 h1 => by
      rw [groatref13_Check_l0, groatref13_Check_s1, decide_eq_true h1]
      simp only [cond_true, within_int h0 h1, specCheck11_eq, some_bind]
      by_cases hc : specC (s.2.2.1.getD i.toNat spec0) = 0
      · rw [decide_eq_true hc, if_neg (fun h => h hc)]
        simp only [Bool.not_true, cond_false]
        by_cases hn : (s.2.2.1.getD i.toNat spec0).1 ≤ last
        · rw [decide_eq_true hn, if_pos hn]; rfl
        · rw [decide_eq_false hn, if_neg hn]; rfl
      · rw [decide_eq_false hc, if_pos hc]; rfl)
    (fun k last => by rw [groatref13_Check_l0, groatref13_Check_s1, decide_eq_false (by omega)]; rfl) 0
  rw [h]
  clear h hl
  generalize s.2.2.1 = l
  suffices ∀ (i last : Int), runI (fun i (x : Spec) (last : Int) K => if specC x ≠ 0 then some (Sum.inl (specC x, i)) else if x.1 ≤ last then some (.inl (11, i)) else K x.1) (fun _ => some (.inr ())) l i last = some (if (specsC l i last).1 = 0 then (.inr () : Sum (Int × Int) Unit) else .inl (specsC l i last)) from this 0 0
  induction l with
  | nil => intro i last; rfl
  | cons x r ih =>
    intro i last
    rw [runI, specsC]
    by_cases hc : specC x ≠ 0
    · rw [if_pos hc, if_pos hc, if_neg hc]
    · rw [if_neg hc, if_neg hc]
      by_cases hn : x.1 ≤ last
      · rw [if_pos hn, if_pos hn]; rfl
      · rw [if_neg hn, if_neg hn]; exact ih _ _
theorem Check13_eq (s : Schema) (hl : s.2.2.1.length ≤ maxLen) : groatref13_Check s = some (schemaC s) := by
  unfold groatref13_Check groatref13_Check_s0 schemaC
  have hx := exc_specs s.2.2.1 0 0
  have hloop : (groatref13_Check_l0 FUEL 0 0 s).bind (fun e => Sum.elim (fun (we : Int × Int) => groatref13_Check_s2 we.1 we.2 fun a0 a1 => some (a0, a1)) (fun (we : Unit) => groatref13_Check_s3 fun a0 a1 => some (a0, a1)) e) = some (specsC s.2.2.1 0 0) := by
    rw [check13_loop s hl, some_bind]; exact hx
  dsimp only
  rw [hloop]
  by_cases h1 : s.1 = 1
  · rw [decide_eq_true h1, if_neg (by omega)]
    by_cases h2 : s.2.1 < 0
    · rw [decide_eq_true h2, if_pos (.inl h2)]; rfl
    · rw [decide_eq_false h2]
      by_cases h3 : 9 < s.2.1
      · rw [decide_eq_true h3, if_pos (.inr h3)]; rfl
      · rw [decide_eq_false h3, if_neg (by omega)]; rfl
  · rw [decide_eq_false h1]
    by_cases h0 : s.1 = 2
    · rw [decide_eq_true h0, if_neg (by omega)]
      by_cases h2 : s.2.1 < 0
      · rw [decide_eq_true h2, if_pos (.inl h2)]; rfl
      · rw [decide_eq_false h2]
        by_cases h3 : 9 < s.2.1
        · rw [decide_eq_true h3, if_pos (.inr h3)]; rfl
        · rw [decide_eq_false h3, if_neg (by omega)]; rfl
    · rw [decide_eq_false h0, if_pos (by omega)]; rfl

theorem getD_spec {l : List Spec} {j : Nat} (h : j < l.length) : l.getD ((j : Int)).toNat ((0 : Int), (0 : Int), (0 : Int), (0 : Int), (0 : Int), ()) = l[j] := by
  rw [Int.toNat_natCast, List.getD_eq_getElem?_getD, List.getElem?_eq_getElem h]; rfl
theorem check_loop (s : Schema) (hl : s.2.2.1.length ≤ 9223372036854775807) : ∀ (m j k : Nat) (last : Int), j + m = s.2.2.1.length → m < k → (j = 0 → last = 0) → (∀ h : 0 < j, last = (s.2.2.1.getD (j - 1) spec0).1) →
    schema_Check_l0 k s.2.2.1 (s.2.2.1.length : Int) j s = some (if (specsC (s.2.2.1.drop j) j last).1 = 0 then .inr () else .inl (specsC (s.2.2.1.drop j) j last)) := by
  intro m
  induction m with
  | zero =>
    intro j k last hj hk h0 h1
    obtain ⟨k, rfl⟩ : ∃ k', k = k' + 1 := ⟨k - 1, by omega⟩
    rw [schema_Check_l0, schema_Check_s1, decide_eq_false (by omega), List.drop_eq_nil_of_le (by omega)]; rfl
  | succ m ih =>
    intro j k last hj hk h0 h1
    obtain ⟨k, rfl⟩ : ∃ k', k = k' + 1 := ⟨k - 1, by omega⟩
    have hlt : j < s.2.2.1.length := by omega
    have ihj := ih (j + 1) k (s.2.2.1[j]).1 (by omega) (by omega) (by omega) (fun _ => by
      rw [Nat.add_sub_cancel, List.getD_eq_getElem?_getD, List.getElem?_eq_getElem hlt]; rfl)
    rw [schema_Check_l0, schema_Check_s1, decide_eq_true (by omega), cond_true, within_nat_lt hlt, getD_spec hlt, specCheck_eq, some_bind, i64_succ (by omega), List.drop_eq_getElem_cons hlt]
    rw [show ((j + 1 : Nat) : Int) = (j : Int) + 1 from rfl] at ihj ⊢
    by_cases hc : specC s.2.2.1[j] = 0
    · rw [decide_eq_true hc]
      simp only [Bool.not_true, cond_false]
      have hno := specC_no hc
      by_cases hz : j = 0
      · have hlast := h0 hz
        have e : specsC (s.2.2.1[j] :: s.2.2.1.drop (j + 1)) j last = specsC (s.2.2.1.drop (j + 1)) ((j : Int) + 1) (s.2.2.1[j]).1 := by
          rw [specsC, if_neg (fun h => h hc), if_neg (by omega)]
        rw [decide_eq_false (by omega), cond_false, e]
        exact ihj
      · have hlast := h1 (by omega)
        have hi : IntKind.i64.wrap ((j : Int) - 1) = ((j - 1 : Nat) : Int) := by rw [i64_id (by omega) (by omega)]; omega
        rw [decide_eq_true (by omega), cond_true, hi, within_nat_lt (by omega), Int.toNat_natCast]
        by_cases hn : (s.2.2.1[j]).1 ≤ last
        · have e : specsC (s.2.2.1[j] :: s.2.2.1.drop (j + 1)) j last = (11, (j : Int)) := by
            rw [specsC, if_neg (fun h => h hc), if_pos hn]
          rw [e, decide_eq_true (by rw [← hlast]; exact hn)]; rfl
        · have e : specsC (s.2.2.1[j] :: s.2.2.1.drop (j + 1)) j last = specsC (s.2.2.1.drop (j + 1)) ((j : Int) + 1) (s.2.2.1[j]).1 := by
            rw [specsC, if_neg (fun h => h hc), if_neg hn]
          rw [e, decide_eq_false (by rw [← hlast]; exact hn)]
          exact ihj
    · have e : specsC (s.2.2.1[j] :: s.2.2.1.drop (j + 1)) j last = (specC s.2.2.1[j], (j : Int)) := by
        rw [specsC, if_pos hc]
      rw [decide_eq_false hc, e, if_neg hc]; rfl
theorem Check_eq (s : Schema) (hl : s.2.2.1.length ≤ maxLen) : schema_Check s = some (schemaC s) := by
  rw [maxLen_eq] at hl
  unfold schema_Check schema_Check_s0 schemaC
  have hx := exc_specs s.2.2.1 0 0
  have hl0 := check_loop s hl s.2.2.1.length 0 FUEL 0 (by omega) (by rw [fuel_eq]; omega) (fun _ => rfl) (fun h => absurd h (by omega))
  rw [List.drop_zero, show ((0 : Nat) : Int) = 0 from rfl] at hl0
  have hloop : (schema_Check_l0 FUEL s.2.2.1 (s.2.2.1.length : Int) 0 s).bind (fun e => Sum.elim (fun (we : Int × Int) => schema_Check_s2 we.1 we.2 fun a0 a1 => some (a0, a1)) (fun (we : Unit) => schema_Check_s3 fun a0 a1 => some (a0, a1)) e) = some (specsC s.2.2.1 0 0) := by
    rw [hl0, some_bind]; exact hx
  dsimp only
  rw [hloop]
  by_cases h1 : s.1 = 1
  · rw [decide_eq_true h1, if_neg (by omega)]
    by_cases h2 : s.2.1 < 0
    · rw [decide_eq_true h2, if_pos (.inl h2)]; rfl
    · rw [decide_eq_false h2]
      by_cases h3 : 9 < s.2.1
      · rw [decide_eq_true h3, if_pos (.inr h3)]; rfl
      · rw [decide_eq_false h3, if_neg (by omega)]; rfl
  · rw [decide_eq_false h1]
    by_cases h0 : s.1 = 2
    · rw [decide_eq_true h0, if_neg (by omega)]
      by_cases h2 : s.2.1 < 0
      · rw [decide_eq_true h2, if_pos (.inl h2)]; rfl
      · rw [decide_eq_false h2]
        by_cases h3 : 9 < s.2.1
        · rw [decide_eq_true h3, if_pos (.inr h3)]; rfl
        · rw [decide_eq_false h3, if_neg (by omega)]; rfl
    · rw [decide_eq_false h0, if_pos (by omega)]; rfl

/-! ### The spec of a field -/
def findS (l : List Spec) (no : Int) : Option Spec := l.find? fun x => decide (x.1 = no)
def idxS : List Spec → Int → Int → Int
  | [], _, _ => -1
  | x :: r, no, i => if x.1 = no then i else idxS r no (i + 1)
theorem Find_eq (s : Schema) (no : Int) (hl : s.2.2.1.length ≤ maxLen) : schema_Find s no = some (match findS s.2.2.1 no with | some x => (x, true) | none => (spec0, false)) := by
  unfold schema_Find schema_Find_s0 findS
  dsimp only
  have h := loopI spec0 s.2.2.1 hl (fun i x (_ : Unit) K => bif decide (x.1 = no) then some (Sum.inl (true, x)) else K ()) (fun _ => some (.inr spec0)) (fun k i _ => schema_Find_l0 k no s.2.2.1 (s.2.2.1.length : Int) i spec0) (fun k i _ => rfl) ()
  rw [h, ]
  clear h hl
  generalize (0 : Int) = i
  generalize s.2.2.1 = l
  induction l generalizing i with
  | nil => rfl
  | cons x r ih =>
    rw [runI, List.find?_cons]
    cases hx : decide (x.1 = no) with
    | true => rfl
    | false => exact ih (i + 1)
theorem idxS_range (l : List Spec) (no : Int) : ∀ i : Int, 0 ≤ i → (idxS l no i = -1 ∧ findS l no = none) ∨ (i ≤ idxS l no i ∧ idxS l no i < i + l.length ∧ ∃ x, findS l no = some x ∧ l.getD (idxS l no i - i).toNat spec0 = x) := by
  induction l with
  | nil => intro i hi; left; exact ⟨rfl, rfl⟩
  | cons x r ih =>
    intro i hi
    unfold idxS findS
    by_cases h : x.1 = no
    · right
      rw [if_pos h, List.find?_cons, decide_eq_true h]
      refine ⟨by omega, by simp; omega, x, rfl, by simp⟩
    · rw [if_neg h, List.find?_cons, decide_eq_false h]
      rcases ih (i + 1) (by omega) with ⟨h1, h2⟩ | ⟨h1, h2, y, h3, h4⟩
      · left; exact ⟨h1, h2⟩
      · right
        refine ⟨by omega, by simp; omega, y, h3, ?_⟩
        have : (idxS r no (i + 1) - i).toNat = (idxS r no (i + 1) - (i + 1)).toNat + 1 := by omega
        rw [this]
        simpa using h4
theorem Find13_eq (s : Schema) (no : Int) (hl : s.2.2.1.length ≤ maxLen) : groatref13_Find s no = some (idxS s.2.2.1 no 0) := by
  unfold groatref13_Find groatref13_Find_s0
  dsimp only
  have h := loopI spec0 s.2.2.1 hl (fun i x (_ : Unit) K => bif decide (x.1 = no) then some (Sum.inl i) else K ()) (fun _ => some (.inr ())) (fun k i _ => groatref13_Find_l0 k no i s) (fun k i _ => rfl) ()
  rw [h]
  clear h hl
  generalize (0 : Int) = i
  generalize s.2.2.1 = l
  induction l generalizing i with
  | nil => rfl
  | cons x r ih =>
    rw [runI, idxS]
    by_cases hx : x.1 = no
    · rw [decide_eq_true hx, if_pos hx]; rfl
    · rw [decide_eq_false hx, if_neg hx]; exact ih (i + 1)
theorem Numbers_eq (s : Schema) (hl : s.2.2.1.length ≤ 1000000) : groatref13_Numbers s = some (s.2.2.1.map fun x => x.1) := by
  unfold groatref13_Numbers groatref13_Numbers_s0
  dsimp only
  have h := loopI spec0 s.2.2.1 (by rw [maxLen_eq]; omega) (fun i x (o : List Int) K => bif decide ((o.length + [x.1].length) * 8 ≤ 140737488355328) then K (o ++ [x.1]) else none) (fun o => some o) (fun k i o => groatref13_Numbers_l0 k o i s) (fun k i o => rfl) []
  rw [h]
  clear h
  suffices ∀ (q : List Spec) (i : Int) (o : List Int), o.length + q.length ≤ 1000000 → runI (fun i (x : Spec) (o : List Int) (K : List Int → Option (List Int)) => bif decide ((o.length + [x.1].length) * 8 ≤ 140737488355328) then K (o ++ [x.1]) else none) (fun o => some o) q i o = some (o ++ q.map fun x => x.1) by
    rw [this s.2.2.1 0 [] (by simp; exact hl), some_bind]; rfl
  intro q
  induction q with
  | nil => intro i o ho; simp [runI]
  | cons x r ih =>
    intro i o ho
    simp only [List.length_cons] at ho
    rw [runI, decide_eq_true (by simp; omega), cond_true]
    refine Eq.trans (ih _ _ (by simp; omega)) ?_
    simp

/-! ### Which fields; with some alone -/
def nosOf (s : Schema) : List Int := s.2.2.1.map fun x => x.1
theorem Set_eq (s : Schema) (hl : s.2.2.1.length ≤ maxLen) : schema_Set s = some ((setH (nosOf s) : Int), (setL (nosOf s) : Int), ()) := by
  unfold schema_Set schema_Set_s0
  dsimp only
  have h := loopI spec0 s.2.2.1 hl (fun i x (t : FSet) K => (fields_Set_With t x.1).bind fun r => K r) (fun t => some ((0, 0, ()), t)) (fun k i t => schema_Set_l0 k s.2.2.1 (s.2.2.1.length : Int) i (0, 0, ()) t) (fun k i t => rfl) (0, 0, ())
  rw [h]
  clear h hl
  unfold nosOf setH setL
  suffices ∀ (l : List Spec) (i : Int) (a b : Nat), a < B64 → b < B64 → runI (fun i (x : Spec) (t : FSet) (K : FSet → Option (FSet × FSet)) => (fields_Set_With t x.1).bind fun r => K r) (fun t => some ((0, 0, ()), t)) l i ((a : Int), (b : Int), ()) = some ((0, 0, ()), (((l.map fun x => x.1).foldl (fun a n => a ||| bitH n) a : Nat) : Int), (((l.map fun x => x.1).foldl (fun a n => a ||| bitL n) b : Nat) : Int), ()) by
    have := this s.2.2.1 0 0 0 (by decide) (by decide)
    rw [show ((0 : Nat) : Int) = 0 from rfl] at this
    rw [this]; rfl
  intro l
  induction l with
  | nil => intro i a b ha hb; rfl
  | cons x r ih =>
    intro i a b ha hb
    rw [runI, With_eq a b ha hb, some_bind]
    refine Eq.trans (ih _ _ _ (or_lt ha (bitH_lt _)) (or_lt hb (bitL_lt _))) ?_
    rfl
def restr (s : Schema) (h l : Nat) : Schema := (s.1, s.2.1, s.2.2.1.filter fun x => hasN h l x.1, ())
theorem hasN_zero (n : Int) : hasN 0 0 n = false := by unfold hasN; simp
theorem Restrict_eq (s : Schema) (h l : Nat) (hh : h < B64) (hl : l < B64) (hs : s.2.2.1.length ≤ 1000000) : schema_Restrict s ((h : Int), (l : Int), ()) = some (restr s h l) := by
  unfold schema_Restrict schema_Restrict_s0 restr
  dsimp only
  by_cases h0 : h = 0 ∧ l = 0
  · obtain ⟨rfl, rfl⟩ := h0
    simp [hasN_zero]
  · have hne : (decide (((h : Nat) : Int) = 0) && (decide (((l : Nat) : Int) = 0) && true)) = false := by
      by_cases h1 : h = 0
      · rw [decide_eq_true (by omega), decide_eq_false (by omega)]; rfl
      · rw [decide_eq_false (by omega)]; rfl
    rw [hne, cond_false]
    have hlp := loopI spec0 s.2.2.1 (by rw [maxLen_eq]; omega) (fun i x (t : Schema) K => (fields_Set_Has ((h : Int), (l : Int), ()) x.1).bind fun r1 => bif r1 then (bif decide ((t.2.2.1.length + [x].length) * 40 ≤ 140737488355328) then K (t.1, t.2.1, t.2.2.1 ++ [x], ()) else none) else K t) (fun t => some (((0 : Int), (0 : Int), ([] : List Spec), ()), t)) (fun k i t => schema_Restrict_l0 k s.2.2.1 (s.2.2.1.length : Int) i ((h : Int), (l : Int), ()) ((0 : Int), (0 : Int), ([] : List Spec), ()) t) (fun k i t => rfl) (s.1, s.2.1, [], ())
    rw [hlp]
    clear hlp
    suffices ∀ (q : List Spec) (i : Int) (o : List Spec), o.length + q.length ≤ 1000000 → runI (fun i (x : Spec) (t : Schema) (K : Schema → Option (Schema × Schema)) => (fields_Set_Has ((h : Int), (l : Int), ()) x.1).bind fun r1 => bif r1 then (bif decide ((t.2.2.1.length + [x].length) * 40 ≤ 140737488355328) then K (t.1, t.2.1, t.2.2.1 ++ [x], ()) else none) else K t) (fun t => some (((0 : Int), (0 : Int), ([] : List Spec), ()), t)) q i (s.1, s.2.1, o, ()) = some (((0 : Int), (0 : Int), ([] : List Spec), ()), (s.1, s.2.1, o ++ q.filter (fun x => hasN h l x.1), ())) by
      rw [this s.2.2.1 0 [] (by simp; exact hs), some_bind]; rfl
    intro q
    induction q with
    | nil => intro i o ho; simp [runI]
    | cons x r ih =>
      intro i o ho
      simp only [List.length_cons] at ho
      rw [runI, Has_eq h l hh hl, some_bind, List.filter_cons]
      cases hb : hasN h l x.1 with
      | true =>
        rw [cond_true, decide_eq_true (by simp; omega), cond_true]
        refine Eq.trans (ih _ _ (by simp; omega)) ?_
        simp
      | false =>
        rw [cond_false]
        refine Eq.trans (ih _ _ (by omega)) ?_
        simp
def eqS (x y : Spec) : Bool := decide (x.1 = y.1) && (decide (x.2.1 = y.2.1) && (decide (x.2.2.1 = y.2.2.1) && (decide (x.2.2.2.1 = y.2.2.2.1) && (decide (x.2.2.2.2.1 = y.2.2.2.2.1) && true))))
theorem eqS_iff (x y : Spec) : eqS x y = true ↔ x = y := by
  obtain ⟨a, b, c, d, e, u⟩ := x
  obtain ⟨a', b', c', d', e', u'⟩ := y
  simp [eqS]
theorem Equal_eq (a b : List Spec) (h : a.length ≤ maxLen) : slices_Equal_api_Spec_api_Spec a b = some (decide (a = b)) := by
  unfold slices_Equal_api_Spec_api_Spec slices_Equal_api_Spec_api_Spec_s0
  by_cases hl : a.length = b.length
  · rw [decide_eq_true (by omega)]
    simp only [Bool.not_true, cond_false]
    rw [same_loop spec0 eqS eqS_iff a b hl h (fun k i => slices_Equal_api_Spec_api_Spec_l0 k a b (a.length : Int) i) (fun k i => rfl)]
    by_cases e : a = b
    · simp [e, slices_Equal_api_Spec_api_Spec_s3]
    · simp [e, slices_Equal_api_Spec_api_Spec_s2]
  · rw [decide_eq_false (by omega)]
    have : a ≠ b := fun e => hl (by rw [e])
    simp [this]
theorem schema_ext {a b : Schema} : a = b ↔ a.1 = b.1 ∧ a.2.1 = b.2.1 ∧ a.2.2.1 = b.2.2.1 := by
  obtain ⟨x, y, z, u⟩ := a
  obtain ⟨x', y', z', u'⟩ := b
  simp
instance : DecidableEq Schema := fun a b => decidable_of_iff _ schema_ext.symm
theorem Same_eq (a b : Schema) (h : a.2.2.1.length ≤ maxLen) : schema_Same a b = some (decide (a = b)) := by
  unfold schema_Same schema_Same_s0
  dsimp only
  rw [Equal_eq _ _ h, some_bind]
  by_cases h1 : a.1 = b.1
  · by_cases h2 : a.2.1 = b.2.1
    · by_cases h3 : a.2.2.1 = b.2.2.1 <;> simp [schema_ext, h1, h2, h3]
    · simp [schema_ext, h1, h2]
  · simp [schema_ext, h1]
theorem Same13_eq (a b : Schema) (h : a.2.2.1.length ≤ maxLen) : groatref13_Same a b = some (decide (a = b)) := by
  unfold groatref13_Same groatref13_Same_s0
  dsimp only
  by_cases h1 : a.1 = b.1
  · rw [decide_eq_true h1]
    by_cases h2 : a.2.1 = b.2.1
    · rw [decide_eq_true h2]
      by_cases hl : a.2.2.1.length = b.2.2.1.length
      · rw [decide_eq_true (by omega)]
        simp only [Bool.not_true, cond_false]
        rw [same_loop spec0 eqS eqS_iff a.2.2.1 b.2.2.1 hl h (fun k i => groatref13_Same_l0 k i a b) (fun k i => rfl)]
        by_cases e : a.2.2.1 = b.2.2.1
        · simp [schema_ext, h1, h2, e, groatref13_Same_s3]
        · simp [schema_ext, h1, h2, e, groatref13_Same_s2]
      · rw [decide_eq_false (by omega)]
        have : ¬ a = b := fun e => hl (by rw [e])
        simp [this]
    · have : ¬ a = b := fun e => h2 (by rw [e])
      rw [decide_eq_false h2, decide_eq_false this]; rfl
  · have : ¬ a = b := fun e => h1 (by rw [e])
    rw [decide_eq_false h1, decide_eq_false this]; rfl
theorem Copy13_eq (s : Schema) (h : s.2.2.1.length ≤ 1000000) : groatref13_Copy s = some s := by
  unfold groatref13_Copy groatref13_Copy_s0
  rw [decide_eq_true (by simp; omega)]; rfl

/-! ### What a schema is that may be -/
def OkSpecs (l : List Spec) (last : Int) : Prop := (∀ x ∈ l, specC x = 0) ∧ (l.Pairwise fun x y => x.1 < y.1) ∧ ∀ x ∈ l, last < x.1
theorem specsC_ok (l : List Spec) : ∀ (i last : Int), (specsC l i last).1 = 0 ↔ OkSpecs l last := by
  induction l with
  | nil => intro i last; simp [specsC, OkSpecs]
  | cons x r ih =>
    intro i last
    unfold specsC
    by_cases hc : specC x = 0
    · rw [if_neg (fun h => h hc)]
      by_cases hn : x.1 ≤ last
      · rw [if_pos hn]
        constructor
        · intro h; cases h
        · intro ⟨_, _, h3⟩; have := h3 x (by simp); omega
      · rw [if_neg hn, ih]
        constructor
        · intro ⟨h1, h2, h3⟩
          refine ⟨fun y hy => ?_, List.pairwise_cons.2 ⟨h3, h2⟩, fun y hy => ?_⟩
          · rcases List.mem_cons.1 hy with rfl | hy
            · exact hc
            · exact h1 y hy
          · rcases List.mem_cons.1 hy with rfl | hy
            · omega
            · have := h3 y hy; omega
        · intro ⟨h1, h2, h3⟩
          obtain ⟨h4, h5⟩ := List.pairwise_cons.1 h2
          exact ⟨fun y hy => h1 y (by simp [hy]), h5, h4⟩
    · rw [if_pos hc]
      constructor
      · intro h; exact absurd h hc
      · intro ⟨h1, _, _⟩; exact absurd (h1 x (by simp)) hc
def Okay (s : Schema) : Prop := (s.1 = 1 ∨ s.1 = 2) ∧ 0 ≤ s.2.1 ∧ s.2.1 ≤ 9 ∧ OkSpecs s.2.2.1 0
theorem schemaC_ok (s : Schema) : (schemaC s).1 = 0 ↔ Okay s := by
  unfold schemaC Okay
  by_cases h1 : s.1 = 1 ∨ s.1 = 2
  · rw [if_neg (fun h => h h1)]
    by_cases h2 : s.2.1 < 0 ∨ 9 < s.2.1
    · rw [if_pos h2]
      constructor
      · intro h; cases h
      · intro ⟨_, a, b, _⟩; omega
    · rw [if_neg h2, specsC_ok]
      constructor
      · intro h; exact ⟨h1, by omega, by omega, h⟩
      · intro ⟨_, _, _, h⟩; exact h
  · rw [if_pos h1]
    constructor
    · intro h; cases h
    · intro ⟨a, _⟩; exact absurd a h1
theorem OkSpecs.filter {l : List Spec} {last : Int} (h : OkSpecs l last) (p : Spec → Bool) : OkSpecs (l.filter p) last :=
  ⟨fun x hx => h.1 x (List.mem_filter.1 hx).1, h.2.1.filter p, fun x hx => h.2.2 x (List.mem_filter.1 hx).1⟩
theorem okay_restr {s : Schema} (h : Okay s) (a b : Nat) : Okay (restr s a b) := ⟨h.1, h.2.1, h.2.2.1, h.2.2.2.filter _⟩
theorem specsC_zero {l : List Spec} {i last : Int} (h : (specsC l i last).1 = 0) : specsC l i last = (0, 0) := by
  induction l generalizing i last with
  | nil => rfl
  | cons x r ih =>
    unfold specsC at h ⊢
    split
    · rename_i h1; rw [if_pos h1] at h; exact absurd h h1
    · rename_i h1
      rw [if_neg h1] at h
      split
      · rename_i h2; rw [if_pos h2] at h; cases h
      · rename_i h2; rw [if_neg h2] at h; exact ih h
theorem schemaC_zero {s : Schema} (h : (schemaC s).1 = 0) : schemaC s = (0, 0) := by
  unfold schemaC at h ⊢
  split
  · rename_i h1; rw [if_pos h1] at h; cases h
  · rename_i h1
    rw [if_neg h1] at h
    split
    · rename_i h2; rw [if_pos h2] at h; cases h
    · rename_i h2; rw [if_neg h2] at h; exact specsC_zero h
theorem Right13_eq (s : Schema) (hl : s.2.2.1.length ≤ maxLen) : groatref13_Right s = some (decide ((schemaC s).1 = 0)) := by
  unfold groatref13_Right groatref13_Right_s0
  rw [Check13_eq s hl, some_bind]
theorem find_mem {l : List Spec} {last : Int} (h : OkSpecs l last) {x : Spec} (hx : x ∈ l) : findS l x.1 = some x := by
  unfold findS
  induction l generalizing last with
  | nil => cases hx
  | cons y r ih =>
    obtain ⟨h1, h2, h3⟩ := h
    obtain ⟨h4, h5⟩ := List.pairwise_cons.1 h2
    rw [List.find?_cons]
    rcases List.mem_cons.1 hx with rfl | hx
    · simp
    · have := h4 x hx
      rw [decide_eq_false (by omega)]
      exact ih (last := y.1) ⟨fun z hz => h1 z (by simp [hz]), h5, h4⟩ hx
/-- The numbers of a rising list are as many as its members in the range. -/
theorem count_rising (l : List Int) : ∀ (n : Nat) (a : Nat), l.Pairwise (· < ·) → (∀ x ∈ l, (a : Int) ≤ x ∧ x < a + n) → ((List.range' a n).countP fun k => decide (((k : Nat) : Int) ∈ l)) = l.length := by
  intro n
  induction n generalizing l with
  | zero =>
    intro a hs hr
    cases l with
    | nil => rfl
    | cons x r => have := hr x (by simp); omega
  | succ n ih =>
    intro a hs hr
    rw [List.range'_succ, List.countP_cons]
    cases l with
    | nil => simp
    | cons x r =>
      obtain ⟨h1, h2⟩ := List.pairwise_cons.1 hs
      by_cases hx : x = (a : Int)
      · have e1 : ((List.range' (a + 1) n).countP fun k => decide (((k : Nat) : Int) ∈ x :: r)) = (List.range' (a + 1) n).countP fun k => decide (((k : Nat) : Int) ∈ r) := by
          apply List.countP_congr
          intro k hk
          have := List.mem_range'_1.1 hk
          have : ¬ ((k : Nat) : Int) = x := by omega
          simp [this]
        rw [e1, ih r (a + 1) h2 (fun y hy => by have := hr y (by simp [hy]); have := h1 y hy; omega)]
        simp [hx]
      · have hax := hr x (by simp)
        rw [ih (x :: r) (a + 1) hs (fun y hy => by
          have := hr y hy
          rcases List.mem_cons.1 hy with rfl | hy
          · omega
          · have := h1 y hy; omega)]
        have : ¬ (a : Int) ∈ x :: r := by
          intro h
          rcases List.mem_cons.1 h with h | h
          · exact hx h.symm
          · have := h1 _ h; omega
        simp [this]
theorem elems_count {l : List Int} (hs : l.Pairwise (· < ·)) (hr : ∀ x ∈ l, 1 ≤ x ∧ x ≤ 128) : (elems (setH l) (setL l)).length = l.length := by
  have h := count_rising l 128 1 hs (fun x hx => by have := hr x hx; omega)
  rw [← h]
  unfold elems nums
  rw [← List.countP_eq_length_filter, List.countP_map, List.range'_eq_map_range, List.countP_map]
  apply List.countP_congr
  intro k hk
  have hk := List.mem_range.1 hk
  simp only [Function.comp, set_has]
  have : ((1 + k : Nat) : Int) = ((k + 1 : Nat) : Int) := by omega
  rw [this]
  unfold inR
  rw [decide_eq_true (p := 1 ≤ ((k + 1 : Nat) : Int) ∧ ((k + 1 : Nat) : Int) ≤ 128) (by omega), Bool.and_true]
end Groat

/- The laws of layer 13, over plain functions. -/
set_option linter.unusedVariables false
set_option linter.unusedSimpArgs false
namespace Groat
open Go Go.Ref

theorem awake13 : groatlaw13_awake = some true := by kernel_rfl
abbrev tSpec : Ty := .pair (.int .i64) (.pair (.int .i64) (.pair (.int .i64) (.pair (.int .i64) (.pair (.int .i64) .unit))))
abbrev tSchema : Ty := .pair (.int .i64) (.pair (.int .i64) (.pair (.sl 0 tSpec) .unit))
theorem wf_fields {s : Schema} (h : Wf tSchema s) : s.2.2.1.length ≤ maxLen := h.2.2.1.1
theorem Bits_eq (a b : Int) : fields_Bits a b = some (a, b, ()) := by unfold fields_Bits fields_Bits_s0; rfl
theorem pure_SchemaChecks (s : Schema) (h : Wf tSchema s) : groatlaw13_SchemaChecks s = some true := by
  have hl := wf_fields h
  unfold groatlaw13_SchemaChecks groatlaw13_SchemaChecks_s0
  simp only [awake13, some_bind, Bool.not_true, cond_false]
  by_cases h1 : (300 : Int) < (s.2.2.1.length : Int)
  · rw [decide_eq_true h1]; rfl
  rw [decide_eq_false h1, cond_false, Copy13_eq s (by omega), some_bind, Check_eq s hl, some_bind, Check13_eq s hl, some_bind]
  simp
theorem pure_SchemaSame (a b : Schema) (ha : Wf tSchema a) (hb : Wf tSchema b) : groatlaw13_SchemaSame a b = some true := by
  unfold groatlaw13_SchemaSame groatlaw13_SchemaSame_s0
  simp only [awake13, some_bind, Bool.not_true, cond_false]
  by_cases h1 : (300 : Int) < (a.2.2.1.length : Int)
  · rw [decide_eq_true h1]; rfl
  rw [decide_eq_false h1, cond_false]
  by_cases h2 : (300 : Int) < (b.2.2.1.length : Int)
  · rw [decide_eq_true h2]; rfl
  rw [decide_eq_false h2, cond_false, Same_eq a b (wf_fields ha), some_bind, Same13_eq a b (wf_fields ha), some_bind, Same_eq b a (wf_fields hb), some_bind, some_bind]
  have : decide (b = a) = decide (a = b) := decide_eq_decide.2 ⟨fun e => e.symm, fun e => e.symm⟩
  rw [this]
  simp
theorem pure_SchemaFinds (s : Schema) (no : Int) (h : Wf tSchema s) (hn : Wf (.int .i64) no) : groatlaw13_SchemaFinds s no = some true := by
  have hl := wf_fields h
  unfold groatlaw13_SchemaFinds groatlaw13_SchemaFinds_s0
  simp only [awake13, some_bind, Bool.not_true, cond_false]
  by_cases h1 : (300 : Int) < (s.2.2.1.length : Int)
  · rw [decide_eq_true h1]; rfl
  rw [decide_eq_false h1, cond_false, Copy13_eq s (by omega), some_bind, Find_eq s no hl, some_bind, Find13_eq s no hl, some_bind, Numbers_eq s (by omega), some_bind, Halves05_eq _ (by rw [List.length_map]; exact hl), some_bind]
  simp only [some_bind, Set_eq s hl, Bits_eq, nosOf]
  rcases idxS_range s.2.2.1 no 0 (by omega) with ⟨e1, e2⟩ | ⟨e1, e2, x, e3, e4⟩
  · rw [e1, e2]
    simp
  · rw [e3]
    have e5 : List.getD s.2.2.1 (idxS s.2.2.1 no 0).toNat spec0 = x := by rw [← e4]; congr 1; omega
    simp only [spec0] at e5
    rw [within_int (by omega) (by omega), e5, decide_eq_true (by omega : (0 : Int) ≤ idxS s.2.2.1 no 0)]
    simp
theorem restr_loop (h l : Nat) (hh : h < B64) (hl : l < B64) (bt3 bt7 : Schema) (s : Schema) (hs : s.2.2.1.length ≤ 1000000) :
    groatlaw13_SchemaRestricts_l0 FUEL (h : Int) (l : Int) s.2.2.1 (s.2.2.1.length : Int) 0 bt3 bt7 (s.1, s.2.1, [], ()) = some (bt3, bt7, restr s h l) := by
  have hlp := loopI spec0 s.2.2.1 (by rw [maxLen_eq]; omega) (fun i x (t : Schema) K => (groatref05_Has (h : Int) (l : Int) x.1).bind fun r1 => bif r1 then (bif decide ((t.2.2.1.length + [x].length) * 40 ≤ 140737488355328) then K (t.1, t.2.1, t.2.2.1 ++ [x], ()) else none) else K t) (fun t => some (bt3, bt7, t)) (fun k i t => groatlaw13_SchemaRestricts_l0 k (h : Int) (l : Int) s.2.2.1 (s.2.2.1.length : Int) i bt3 bt7 t) (fun k i t => rfl) (s.1, s.2.1, [], ())
  rw [hlp]
  clear hlp
  unfold restr
  suffices ∀ (q : List Spec) (i : Int) (o : List Spec), o.length + q.length ≤ 1000000 → runI (fun i (x : Spec) (t : Schema) (K : Schema → Option (Schema × Schema × Schema)) => (groatref05_Has (h : Int) (l : Int) x.1).bind fun r1 => bif r1 then (bif decide ((t.2.2.1.length + [x].length) * 40 ≤ 140737488355328) then K (t.1, t.2.1, t.2.2.1 ++ [x], ()) else none) else K t) (fun t => some (bt3, bt7, t)) q i (s.1, s.2.1, o, ()) = some (bt3, bt7, (s.1, s.2.1, o ++ q.filter (fun x => hasN h l x.1), ())) by
    rw [this s.2.2.1 0 [] (by simp; exact hs)]; rfl
  intro q
  induction q with
  | nil => intro i o ho; simp [runI]
  | cons x r ih =>
    intro i o ho
    simp only [List.length_cons] at ho
    rw [runI, Has05_eq h l hh hl, some_bind, List.filter_cons]
    cases hb : hasN h l x.1 with
    | true =>
      rw [cond_true, decide_eq_true (by simp; omega), cond_true]
      refine Eq.trans (ih _ _ (by simp; omega)) ?_
      simp
    | false =>
      rw [cond_false]
      refine Eq.trans (ih _ _ (by omega)) ?_
      simp
theorem u64_toNat' {x : Int} (h : Wf (.int .u64) x) : ∃ n : Nat, x = (n : Int) ∧ n < B64 := by
  have := wf_u64 h
  exact ⟨x.toNat, by omega, by show x.toNat < 18446744073709551616; omega⟩
theorem restr_len (s : Schema) (h l : Nat) : (restr s h l).2.2.1.length ≤ s.2.2.1.length := List.length_filter_le _ _
theorem pure_SchemaRestricts (s : Schema) (a b : Int) (h : Wf tSchema s) (ha : Wf (.int .u64) a) (hb : Wf (.int .u64) b) : groatlaw13_SchemaRestricts s a b = some true := by
  have hl := wf_fields h
  obtain ⟨a, rfl, ha'⟩ := u64_toNat' ha
  obtain ⟨b, rfl, hb'⟩ := u64_toNat' hb
  clear ha hb
  unfold groatlaw13_SchemaRestricts groatlaw13_SchemaRestricts_s0
  simp only [awake13, some_bind, Bool.not_true, cond_false]
  by_cases h1 : (300 : Int) < (s.2.2.1.length : Int)
  · rw [decide_eq_true h1]; rfl
  rw [decide_eq_false h1, cond_false, Copy13_eq s (by omega), some_bind, Bits_eq, some_bind, Restrict_eq s a b ha' hb' (by omega), some_bind, restr_loop a b ha' hb' _ _ s (by omega), some_bind]
  simp only [groatlaw13_SchemaRestricts_s2]
  have hlen := restr_len s a b
  rw [Same13_eq _ _ (by omega), some_bind, Right13_eq s hl, some_bind, Right13_eq _ (by omega), some_bind]
  by_cases hok : (schemaC s).1 = 0
  · have := (schemaC_ok _).2 (okay_restr ((schemaC_ok s).1 hok) a b)
    simp [hok, this]
  · simp [hok]
theorem order_loop (s : Schema) (hl : s.2.2.1.length ≤ maxLen) (hok : Okay s) : groatlaw13_SchemaOrder_l0 FUEL s.2.2.1 (s.2.2.1.length : Int) 0 s = some (.inr s) := by
  have hlp := loopI spec0 s.2.2.1 hl (fun i x (_ : Unit) K => (schema_Find s x.1).bind fun r6 => bif !r6.2 then some (Sum.inl (false, s)) else bif !(eqS r6.1 x) then some (.inl (false, s)) else K ()) (fun _ => some (.inr s)) (fun k i _ => groatlaw13_SchemaOrder_l0 k s.2.2.1 (s.2.2.1.length : Int) i s) (fun k i t => rfl) ()
  rw [hlp]
  clear hlp
  suffices ∀ (q : List Spec) (i : Int), (∀ x ∈ q, x ∈ s.2.2.1) → runI (fun i (x : Spec) (_ : Unit) (K : Unit → Option (Sum (Bool × Schema) Schema)) => (schema_Find s x.1).bind fun r6 => bif !r6.2 then some (Sum.inl (false, s)) else bif !(eqS r6.1 x) then some (.inl (false, s)) else K ()) (fun _ => some (.inr s)) q i () = some (.inr s) from this _ _ (fun x hx => hx)
  intro q
  induction q with
  | nil => intro i _; rfl
  | cons x r ih =>
    intro i hq
    rw [runI, Find_eq s x.1 hl, some_bind, find_mem hok.2.2.2 (hq x (by simp)), (eqS_iff x x).2 rfl]
    exact ih (i + 1) (fun y hy => hq y (by simp [hy]))
theorem pure_SchemaOrder (s : Schema) (h : Wf tSchema s) : groatlaw13_SchemaOrder s = some true := by
  have hl := wf_fields h
  unfold groatlaw13_SchemaOrder groatlaw13_SchemaOrder_s0
  simp only [awake13, some_bind, Bool.not_true, cond_false]
  by_cases h1 : (300 : Int) < (s.2.2.1.length : Int)
  · rw [decide_eq_true h1]; rfl
  rw [decide_eq_false h1, cond_false, Right13_eq s hl, some_bind]
  by_cases hc : (schemaC s).1 = 0
  · have hok := (schemaC_ok s).1 hc
    rw [decide_eq_true hc]
    simp only [Bool.not_true, cond_false]
    rw [order_loop s hl hok, some_bind]
    simp only [Sum.elim_inr, groatlaw13_SchemaOrder_s3]
    have hspec := hok.2.2.2
    have hsort : (nosOf s).Pairwise (· < ·) := by
      unfold nosOf
      exact List.Pairwise.map _ (fun a b h => h) hspec.2.1
    have hrange : ∀ x ∈ nosOf s, 1 ≤ x ∧ x ≤ 128 := by
      intro x hx
      obtain ⟨y, hy, rfl⟩ := List.mem_map.1 hx
      have := specC_no (hspec.1 y hy)
      omega
    have hcount := elems_count hsort hrange
    have hfilter : restr s (setH (nosOf s)) (setL (nosOf s)) = s := by
      unfold restr
      have : (s.2.2.1.filter fun x => hasN (setH (nosOf s)) (setL (nosOf s)) x.1) = s.2.2.1 := by
        apply List.filter_eq_self.2
        intro x hx
        have hm : x.1 ∈ nosOf s := List.mem_map.2 ⟨x, hx, rfl⟩
        have := hrange _ hm
        rw [set_has, decide_eq_true hm]
        simp [inR]; omega
      rw [this]
    rw [Set_eq s hl, some_bind, Len_eq _ _ (setH_lt _) (setL_lt _), some_bind, hcount, Restrict_eq s _ _ (setH_lt _) (setL_lt _) (by omega), some_bind, hfilter, Same13_eq s s hl, some_bind, Copy13_eq s (by omega), some_bind, Same_eq s s hl, some_bind]
    simp [nosOf]
  · rw [decide_eq_false hc]; rfl
end Groat
