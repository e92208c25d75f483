/- No condition. -/
import Derived.Test.YtmbobepkfagkgaaDoorK2
import Derived.Test.YtmbobepkfagkgaaDoorProg
set_option linter.unusedVariables false
set_option linter.unusedSimpArgs false
namespace Groat
open Go Go.Ref
theorem insV_len (l : List Val) (no : Int) (t : ByteArray) : (insV l no t).length = l.length + 1 := by
  unfold insV
  rcases idxGt_cases no l 0 (Int.le_refl _) with ⟨h1, _⟩ | h1
  · rw [h1, decide_eq_true (by omega : (-1 : Int) < 0), cond_true, List.length_append]; rfl
  · rw [decide_eq_false (by omega : ¬ idxGt no l 0 < 0), cond_false, List.length_append, List.length_take, List.length_cons, List.length_drop]
    omega
theorem withM_len (m : Msg) (no : Int) (t : ByteArray) : (withM m no t).2.1.length ≤ m.2.1.length + 1 := by
  show (insV (dropV m.2.1 no) no t).length ≤ _
  rw [insV_len]
  have := dropV_len m.2.1 no
  omega
theorem Head_eq (m : Map) (t : ByteArray) (h : m.1.length ≤ maxLen) : xlate_head m t = some (applyP m.1 t) := by
  unfold xlate_head xlate_head_s0
  dsimp only
  have := loopI pair0 m.1 h (fun i (x : Pair) (s : Unit) K => bif decide (x.1 = t) then some (Sum.inl (x.2.1, true)) else K s) (fun _ => some (Sum.inr ()))
    (fun k i s => xlate_head_l0 k t m.1 (m.1.length : Int) i) (fun k i s => rfl) ()
  rw [this, codesApply_run]
  unfold applyP
  cases m.1.find? fun p => decide (p.1 = t) <;> rfl
def findR (m : Map) (no : Int) : Option Rule := m.2.1.find? fun r => decide (r.2.1 = no)
def findX (o : Option Rule) : Option (Sum (Bool × Rule) Rule) := some (match o with
  | some r => .inl (true, r)
  | none => .inr rule0)
theorem find_run (no : Int) : ∀ (l : List Rule) (i : Int), runI (fun i (x : Rule) (s : Unit) K => (bif (decide (x.2.1 = no)) then some (Sum.inl (true, x)) else K s)) (fun _ => some (Sum.inr rule0)) l i () = findX (l.find? fun r => decide (r.2.1 = no))
  | [], i => rfl
  | x :: r, i => by
    rw [runI, List.find?_cons]
    cases hx : decide (x.2.1 = no) with
    | true => rfl
    | false => rw [cond_false]; exact find_run no r (i + 1)
theorem FindR_eq (m : Map) (no : Int) (h : m.2.1.length ≤ maxLen) : xlate_find m no = some (match findR m no with
  | some r => (r, true)
  | none => (rule0, false)) := by
  unfold xlate_find xlate_find_s0 findR
  dsimp only
  have := loopI rule0 m.2.1 h (fun i (x : Rule) (s : Unit) K => (bif (decide (x.2.1 = no)) then some (Sum.inl (true, x)) else K s)) (fun _ => some (Sum.inr rule0))
    (fun k i s => xlate_find_l0 k no m.2.1 (m.2.1.length : Int) i rule0) (fun k i s => rfl) ()
  rw [this, find_run]
  unfold findX
  cases m.2.1.find? fun r => decide (r.2.1 = no) <;> rfl
def constsM : List Rule → Msg → Msg
  | [], out => out
  | r :: l, out => constsM l (bif decide (r.1 = 3) then withM out r.2.2.1 r.2.2.2.1 else out)
theorem constsM_len : ∀ (l : List Rule) (out : Msg), (constsM l out).2.1.length ≤ out.2.1.length + l.length
  | [], out => Nat.le_refl _
  | r :: l, out => by
    rw [constsM, List.length_cons]
    cases decide (r.1 = 3) with
    | true => rw [cond_true]; have := constsM_len l (withM out r.2.2.1 r.2.2.2.1); have := withM_len out r.2.2.1 r.2.2.2.1; omega
    | false => rw [cond_false]; have := constsM_len l out; omega
theorem consts_run {ρ : Type} (fin : Msg → Option ρ) : ∀ (l : List Rule) (i : Int) (out : Msg), out.2.1.length + l.length ≤ 1000000 →
    runI (fun i (x : Rule) (s : Msg) K => (bif (decide (x.1 = (3 : Int))) then ((msg_With s x.2.2.1 x.2.2.2.1).bind fun r4 => K r4) else K s)) fin l i out = fin (constsM l out)
  | [], i, out, _ => rfl
  | r :: l, i, out, h => by
    simp only [List.length_cons] at h
    rw [runI, constsM]
    cases decide (r.1 = 3) with
    | true =>
      rw [cond_true, cond_true, MWith_eq out _ _ (by omega), some_bind]
      have := withM_len out r.2.2.1 r.2.2.2.1
      exact consts_run fin l (i + 1) _ (by omega)
    | false =>
      rw [cond_false, cond_false]
      exact consts_run fin l (i + 1) out (by omega)
def fieldsT (m : Map) (b : Schema) : List Val → Msg → Sum (Fault × Msg) Msg
  | [], out => .inr out
  | v :: r, out => match findR m v.1 with
    | none => .inl ((9, v.1, ()), out)
    | some q => bif !decide ((applyR q b v.2.1).2 = 0) then .inl (((applyR q b v.2.1).2, v.1, ()), out) else fieldsT m b r (bif !decide ((applyR q b v.2.1).1.1 = 0) then withM out (applyR q b v.2.1).1.1 (applyR q b v.2.1).1.2.1 else out)
abbrev msg0 : Msg := (bs [], [], ())
def fieldsTX (o : Sum (Fault × Msg) Msg) : Option (Sum (Msg × Fault × Msg) (Msg × Fault × Msg)) := some (match o with
  | .inl (f, out) => .inl (msg0, f, out)
  | .inr out => .inr (msg0, fault0, out))
theorem findR_mem {m : Map} {no : Int} {r : Rule} (h : findR m no = some r) : r ∈ m.2.1 ∧ r.2.1 = no := ⟨List.mem_of_find?_eq_some h, by simpa using List.find?_some h⟩
theorem fieldsT_run (m : Map) (b : Schema) (hm : MapOk m) (hb : b.2.2.1.length ≤ maxLen) : ∀ (l : List Val) (i : Int) (out : Msg), out.2.1.length + l.length ≤ 1000000 → (∀ v ∈ l, v.2.1.size ≤ 1099511627776) →
    runI (fun i (x : Val) (s : Msg) K => ((xlate_find m x.1).bind fun r5 => (bif (!r5.2) then some (Sum.inl (msg0, ((9 : Int), x.1, ()), s)) else ((rule_Apply r5.1 b x.2.1).bind fun r6 => (bif (!(decide (r6.2 = (0 : Int)))) then some (Sum.inl (msg0, (r6.2, x.1, ()), s)) else (bif (!(decide (r6.1.1 = (0 : Int)))) then ((msg_With s r6.1.1 r6.1.2.1).bind fun r7 => K r7) else K s)))))) (fun s => some (Sum.inr (msg0, fault0, s))) l i out = fieldsTX (fieldsT m b l out)
  | [], i, out, _, _ => rfl
  | v :: r, i, out, h, ht => by
    simp only [List.length_cons] at h
    have hl := hm.len
    have hv := ht v List.mem_cons_self
    rw [runI, FindR_eq m v.1 (by rw [maxLen_eq]; omega), some_bind, fieldsT]
    cases hf : findR m v.1 with
    | none => rfl
    | some q =>
      dsimp only
      obtain ⟨q1, _⟩ := findR_mem hf
      have qp := (hm.rules q q1).pairs.len
      rw [Bool.not_true, cond_false, ruleApply_eq q b v.2.1 (by rw [maxLen_eq]; omega) hb (by rw [maxLen_eq]; omega), some_bind]
      generalize applyR q b v.2.1 = y
      cases decide (y.2 = 0) with
      | false => rfl
      | true =>
        rw [Bool.not_true, cond_false, cond_false]
        cases decide (y.1.1 = 0) with
        | true =>
          rw [Bool.not_true, cond_false, cond_false]
          exact fieldsT_run m b hm hb r (i + 1) out (by omega) (fun w hw => ht w (List.mem_cons_of_mem _ hw))
        | false =>
          rw [Bool.not_false, cond_true, cond_true, MWith_eq out _ _ (by omega), some_bind]
          have := withM_len out y.1.1 y.1.2.1
          exact fieldsT_run m b hm hb r (i + 1) _ (by omega) (fun w hw => ht w (List.mem_cons_of_mem _ hw))
def transC (m : Map) (a b : Schema) (x : Msg) : Msg × Fault :=
  bif !decide ((mapC m a b).1 = 0) then (msg0, (1, -1, ())) else bif !decide ((msgC a x).1 = 0) then (msg0, msgC a x) else bif !(applyP m.1 x.1).2 then (msg0, (7, 0, ()))
  else match fieldsT m b x.2.1 (constsM m.2.1 ((applyP m.1 x.1).1, [], ())) with
    | .inl (f, _) => (msg0, f)
    | .inr out => (out, fault0)
theorem Translate_eq (m : Map) (a b : Schema) (x : Msg) (hm : MapOk m) (hm2 : m.2.1.length ≤ 900000) (hx : MsgOk x) (hx2 : x.2.1.length ≤ 90000) (ha : a.2.2.1.length ≤ maxLen) (hb : b.2.2.1.length ≤ maxLen) : xlate_Translate m a b x = some (transC m a b x) := by
  have hl := hm.mtis.len
  unfold xlate_Translate xlate_Translate_s0 transC
  rw [xlateCheck_eq m a b hm ha hb, some_bind]
  cases decide ((mapC m a b).1 = 0) with
  | false => rfl
  | true =>
    rw [Bool.not_true, cond_false, cond_false, msgCheck_eq a x ha hx, some_bind]
    cases decide ((msgC a x).1 = 0) with
    | false => rfl
    | true =>
      rw [Bool.not_true, cond_false, cond_false, Head_eq m x.1 (by rw [maxLen_eq]; omega), some_bind]
      cases (applyP m.1 x.1).2 with
      | false => rfl
      | true =>
        rw [Bool.not_true, cond_false, cond_false]
        dsimp only
        have h1 := loopI rule0 m.2.1 (by rw [maxLen_eq]; omega) (fun i (x : Rule) (s : Msg) K => (bif (decide (x.1 = (3 : Int))) then ((msg_With s x.2.2.1 x.2.2.2.1).bind fun r4 => K r4) else K s)) (fun s => some (m, b, x, msg0, fault0, s))
          (fun k i s => xlate_Translate_l0 k m.2.1 (m.2.1.length : Int) i m b x msg0 fault0 s) (fun k i s => rfl) ((applyP m.1 x.1).1, [], ())
        rw [h1, consts_run _ _ _ _ (by simp; omega), some_bind]
        unfold xlate_Translate_s2
        dsimp only
        have hc := constsM_len m.2.1 ((applyP m.1 x.1).1, [], ())
        have hc : (constsM m.2.1 ((applyP m.1 x.1).1, [], ())).2.1.length ≤ m.2.1.length := by simpa using hc
        have h2 := loopI vnil x.2.1 (by rw [maxLen_eq]; omega) (fun i (x : Val) (s : Msg) K => ((xlate_find m x.1).bind fun r5 => (bif (!r5.2) then some (Sum.inl (msg0, ((9 : Int), x.1, ()), s)) else ((rule_Apply r5.1 b x.2.1).bind fun r6 => (bif (!(decide (r6.2 = (0 : Int)))) then some (Sum.inl (msg0, (r6.2, x.1, ()), s)) else (bif (!(decide (r6.1.1 = (0 : Int)))) then ((msg_With s r6.1.1 r6.1.2.1).bind fun r7 => K r7) else K s)))))) (fun s => some (Sum.inr (msg0, fault0, s)))
          (fun k i s => xlate_Translate_l1 k x.2.1 (x.2.1.length : Int) i m b msg0 fault0 s) (fun k i s => rfl) (constsM m.2.1 ((applyP m.1 x.1).1, [], ()))
        rw [h2, fieldsT_run m b hm hb _ _ _ (by omega) hx.txt]
        unfold fieldsTX
        cases fieldsT m b x.2.1 (constsM m.2.1 ((applyP m.1 x.1).1, [], ())) with
        | inl p => obtain ⟨f, o⟩ := p; rfl
        | inr o => rfl
end Groat
set_option linter.unusedVariables false
set_option linter.unusedSimpArgs false
namespace Groat
open Go Go.Ref
abbrev Ris (l : List Val) : Prop := l.Pairwise fun x y => x.1 < y.1
def insR (no : Int) (t : ByteArray) : List Val → List Val
  | [] => [(no, t, ())]
  | x :: r => if no < x.1 then (no, t, ()) :: x :: r else x :: insR no t r
theorem idxGt_shift (no : Int) : ∀ (l : List Val) (i d : Int), 0 ≤ i → 0 ≤ d → idxGt no l (i + d) = if idxGt no l i < 0 then -1 else idxGt no l i + d
  | [], i, d, _, _ => by unfold idxGt; rw [if_pos (by omega)]
  | x :: r, i, d, hi, hd => by
    unfold idxGt
    by_cases hx : no < x.1
    · rw [if_pos hx, if_pos hx, if_neg (by omega)]
    · rw [if_neg hx, if_neg hx, show i + d + 1 = (i + 1) + d by omega]
      exact idxGt_shift no r (i + 1) d (by omega) hd
theorem insV_eq (no : Int) (t : ByteArray) : ∀ l : List Val, insV l no t = insR no t l
  | [] => rfl
  | x :: r => by
    have ih := insV_eq no t r
    unfold insV at ih ⊢
    unfold insR
    by_cases hx : no < x.1
    · have : idxGt no (x :: r) 0 = 0 := by unfold idxGt; rw [if_pos hx]
      rw [this, if_pos hx]; rfl
    · rw [if_neg hx, ← ih]
      have h0 : idxGt no (x :: r) 0 = idxGt no r (0 + 1) := by
        show (if no < x.1 then (0 : Int) else idxGt no r (0 + 1)) = _
        rw [if_neg hx]
      rw [h0, idxGt_shift no r 0 1 (by omega) (by omega)]
      rcases idxGt_cases no r 0 (Int.le_refl _) with ⟨h1, _⟩ | h1
      · rw [h1, if_pos (by omega)]; rfl
      · rw [if_neg (by omega), decide_eq_false (by omega : ¬ idxGt no r 0 + 1 < 0), decide_eq_false (by omega : ¬ idxGt no r 0 < 0), cond_false, cond_false]
        have : (idxGt no r 0 + 1).toNat = (idxGt no r 0).toNat + 1 := by omega
        rw [this]; rfl
theorem insR_mem (no : Int) (t : ByteArray) (v : Val) : ∀ l : List Val, v ∈ insR no t l ↔ v = (no, t, ()) ∨ v ∈ l
  | [] => by simp [insR]
  | x :: r => by
    unfold insR
    split
    · simp
    · rw [List.mem_cons, insR_mem no t v r, List.mem_cons]
      constructor
      · rintro (h | h | h)
        · exact .inr (.inl h)
        · exact .inl h
        · exact .inr (.inr h)
      · rintro (h | h | h)
        · exact .inr (.inl h)
        · exact .inl h
        · exact .inr (.inr h)
theorem insR_ris (no : Int) (t : ByteArray) : ∀ {l : List Val}, Ris l → (∀ x ∈ l, x.1 ≠ no) → Ris (insR no t l)
  | [], _, _ => by simp [insR, Ris]
  | x :: r, h, hn => by
    have hx := hn x List.mem_cons_self
    rw [Ris, List.pairwise_cons] at h
    unfold insR
    split
    · rename_i hlt
      refine List.pairwise_cons.2 ⟨fun y hy => ?_, List.pairwise_cons.2 h⟩
      rcases List.mem_cons.1 hy with rfl | hy
      · exact hlt
      · have := h.1 y hy
        show no < y.1
        omega
    · rename_i hlt
      refine List.pairwise_cons.2 ⟨fun y hy => ?_, insR_ris no t h.2 (fun z hz => hn z (List.mem_cons_of_mem _ hz))⟩
      rcases (insR_mem no t y r).1 hy with rfl | hy
      · show x.1 < no
        omega
      · exact h.1 y hy
theorem dropV_mem {l : List Val} {no : Int} {v : Val} : v ∈ dropV l no ↔ v ∈ l ∧ v.1 ≠ no := by
  unfold dropV
  rw [List.mem_filter]
  simp
theorem withM_mem (m : Msg) (no : Int) (t : ByteArray) (v : Val) : v ∈ (withM m no t).2.1 ↔ v = (no, t, ()) ∨ (v ∈ m.2.1 ∧ v.1 ≠ no) := by
  show v ∈ insV (dropV m.2.1 no) no t ↔ _
  rw [insV_eq, insR_mem, dropV_mem]
theorem withM_ris {m : Msg} (h : Ris m.2.1) (no : Int) (t : ByteArray) : Ris (withM m no t).2.1 := by
  show Ris (insV (dropV m.2.1 no) no t)
  rw [insV_eq]
  exact insR_ris no t (h.filter _) (fun x hx => (dropV_mem.1 hx).2)
theorem ris_ext : ∀ {l r : List Val}, Ris l → Ris r → (∀ v, v ∈ l ↔ v ∈ r) → l = r
  | [], [], _, _, _ => rfl
  | [], y :: r, _, _, h => by have := (h y).2 List.mem_cons_self; cases this
  | x :: l, [], _, _, h => by have := (h x).1 List.mem_cons_self; cases this
  | x :: l, y :: r, hl, hr, h => by
    have hl' := List.pairwise_cons.1 hl
    have hr' := List.pairwise_cons.1 hr
    have e : x = y := by
      rcases List.mem_cons.1 ((h x).1 List.mem_cons_self) with e | e
      · exact e
      · rcases List.mem_cons.1 ((h y).2 List.mem_cons_self) with e2 | e2
        · exact e2.symm
        · have a1 := hr'.1 x e
          have a2 := hl'.1 y e2
          omega
    subst e
    congr 1
    refine ris_ext hl'.2 hr'.2 fun v => ⟨fun hv => ?_, fun hv => ?_⟩
    · rcases List.mem_cons.1 ((h v).1 (List.mem_cons_of_mem _ hv)) with e | e
      · subst e; have := hl'.1 _ hv; omega
      · exact e
    · rcases List.mem_cons.1 ((h v).2 (List.mem_cons_of_mem _ hv)) with e | e
      · subst e; have := hr'.1 _ hv; omega
      · exact e
def putAll : List Val → Msg → Msg
  | [], out => out
  | v :: l, out => putAll l (withM out v.1 v.2.1)
def Apart (l : List Val) : Prop := l.Pairwise fun x y => x.1 ≠ y.1
theorem putAll_head : ∀ (l : List Val) (out : Msg), (putAll l out).1 = out.1
  | [], out => rfl
  | v :: l, out => putAll_head l _
theorem putAll_ris : ∀ (l : List Val) {out : Msg}, Ris out.2.1 → Ris (putAll l out).2.1
  | [], out, h => h
  | v :: l, out, h => putAll_ris l (withM_ris h v.1 v.2.1)
theorem putAll_mem : ∀ (l : List Val) (out : Msg), Apart l → (∀ v ∈ l, ∀ w ∈ out.2.1, v.1 ≠ w.1) → ∀ v, v ∈ (putAll l out).2.1 ↔ v ∈ out.2.1 ∨ v ∈ l
  | [], out, _, _, v => by simp [putAll]
  | x :: l, out, ha, hd, v => by
    have ha' := List.pairwise_cons.1 ha
    have hx : (x.1, x.2.1, ()) = x := rfl
    rw [putAll, putAll_mem l _ ha'.2 (fun y hy w hw => ?_) v, withM_mem, hx, List.mem_cons]
    · constructor
      · rintro ((h | h) | h)
        · exact .inr (.inl h)
        · exact .inl h.1
        · exact .inr (.inr h)
      · rintro (h | h | h)
        · exact .inl (.inr ⟨h, fun e => hd x List.mem_cons_self v h e.symm⟩)
        · exact .inl (.inl h)
        · exact .inr h
    · rcases (withM_mem out x.1 x.2.1 w).1 hw with e | e
      · rw [e]; exact fun h => ha'.1 y hy h.symm
      · exact hd y (List.mem_cons_of_mem _ hy) w e.1
theorem putAll_append : ∀ (l r : List Val) (out : Msg), putAll (l ++ r) out = putAll r (putAll l out)
  | [], r, out => rfl
  | v :: l, r, out => putAll_append l r _
def constL (l : List Rule) : List Val := (l.filter fun r => decide (r.1 = 3)).map fun r => (r.2.2.1, r.2.2.2.1, ())
theorem constsM_put : ∀ (l : List Rule) (out : Msg), constsM l out = putAll (constL l) out
  | [], out => rfl
  | r :: l, out => by
    rw [constsM]
    unfold constL
    rw [List.filter_cons]
    cases decide (r.1 = 3) with
    | true => exact constsM_put l _
    | false => exact constsM_put l _
def fieldsV (m : Map) (b : Schema) : List Val → Sum Fault (List Val)
  | [] => .inr []
  | v :: r => match findR m v.1 with
    | none => .inl (9, v.1, ())
    | some q => bif !decide ((applyR q b v.2.1).2 = 0) then .inl ((applyR q b v.2.1).2, v.1, ()) else match fieldsV m b r with
      | .inl f => .inl f
      | .inr ys => .inr ((applyR q b v.2.1).1 :: ys)
def some0 (l : List Val) : List Val := l.filter fun v => !decide (v.1 = 0)
theorem fieldsT_put (m : Map) (b : Schema) : ∀ (l : List Val) (out : Msg), (∃ f o, fieldsT m b l out = .inl (f, o) ∧ fieldsV m b l = .inl f) ∨ (∃ ys, fieldsT m b l out = .inr (putAll (some0 ys) out) ∧ fieldsV m b l = .inr ys)
  | [], out => .inr ⟨[], rfl, rfl⟩
  | v :: r, out => by
    rw [fieldsT, fieldsV]
    cases findR m v.1 with
    | none => exact .inl ⟨_, _, rfl, rfl⟩
    | some q =>
      dsimp only
      generalize applyR q b v.2.1 = y
      cases decide (y.2 = 0) with
      | false => exact .inl ⟨_, _, rfl, rfl⟩
      | true =>
        rw [Bool.not_true, cond_false, cond_false]
        cases hz : decide (y.1.1 = 0) with
        | true =>
          rw [Bool.not_true, cond_false]
          rcases fieldsT_put m b r out with ⟨f, o, h1, h2⟩ | ⟨ys, h1, h2⟩
          · exact .inl ⟨f, o, h1, by rw [h2]⟩
          · refine .inr ⟨y.1 :: ys, ?_, by rw [h2]⟩
            rw [h1]
            have : some0 (y.1 :: ys) = some0 ys := by unfold some0; rw [List.filter_cons, hz]; rfl
            rw [this]
        | false =>
          rw [Bool.not_false, cond_true]
          rcases fieldsT_put m b r (withM out y.1.1 y.1.2.1) with ⟨f, o, h1, h2⟩ | ⟨ys, h1, h2⟩
          · exact .inl ⟨f, o, h1, by rw [h2]⟩
          · refine .inr ⟨y.1 :: ys, ?_, by rw [h2]⟩
            rw [h1]
            have : some0 (y.1 :: ys) = y.1 :: some0 ys := by unfold some0; rw [List.filter_cons, hz]; rfl
            rw [this]
            rfl
theorem fieldsV_mem {m : Map} {b : Schema} : ∀ {l ys : List Val}, fieldsV m b l = .inr ys → ∀ y ∈ ys, ∃ v ∈ l, ∃ q, findR m v.1 = some q ∧ (applyR q b v.2.1).2 = 0 ∧ y = (applyR q b v.2.1).1
  | [], ys, h, y, hy => by cases h; cases hy
  | v :: r, ys, h, y, hy => by
    rw [fieldsV] at h
    cases hf : findR m v.1 with
    | none => rw [hf] at h; cases h
    | some q =>
      rw [hf] at h
      dsimp only at h
      cases hz : decide ((applyR q b v.2.1).2 = 0) with
      | false => rw [hz] at h; cases h
      | true =>
        rw [hz, Bool.not_true, cond_false] at h
        cases hr : fieldsV m b r with
        | inl f => rw [hr] at h; cases h
        | inr zs =>
          rw [hr] at h
          cases h
          rcases List.mem_cons.1 hy with rfl | hy
          · exact ⟨v, List.mem_cons_self, q, hf, of_decide_eq_true hz, rfl⟩
          · obtain ⟨w, hw, q', g⟩ := fieldsV_mem hr y hy
            exact ⟨w, List.mem_cons_of_mem _ hw, q', g⟩
theorem twice_symm (x y : Rule) : twiceR x y = twiceR y x := by
  unfold twiceR
  have e1 : (!decide (x.2.1 = 0) && decide (x.2.1 = y.2.1)) = (!decide (y.2.1 = 0) && decide (y.2.1 = x.2.1)) := by
    by_cases h : x.2.1 = y.2.1
    · rw [h]
    · rw [decide_eq_false h, decide_eq_false (show ¬ y.2.1 = x.2.1 from fun e => h e.symm), Bool.and_false, Bool.and_false]
  have e2 : (!decide (x.2.2.1 = 0) && decide (x.2.2.1 = y.2.2.1)) = (!decide (y.2.2.1 = 0) && decide (y.2.2.1 = x.2.2.1)) := by
    by_cases h : x.2.2.1 = y.2.2.1
    · rw [h]
    · rw [decide_eq_false h, decide_eq_false (show ¬ y.2.2.1 = x.2.2.1 from fun e => h e.symm), Bool.and_false, Bool.and_false]
  rw [e1, e2]
theorem noTwice_pair : ∀ {l prev : List Rule}, NoTwice prev l → l.Pairwise (fun x y => twiceR x y = false) ∧ ∀ p ∈ prev, ∀ x ∈ l, twiceR p x = false
  | [], prev, h => ⟨List.Pairwise.nil, fun _ _ x hx => by cases hx⟩
  | r :: l, prev, h => by
    obtain ⟨h1, h2⟩ := h
    obtain ⟨i1, i2⟩ := noTwice_pair h2
    have hp : ∀ p ∈ prev, twiceR p r = false := fun p hp => by
      have := List.any_eq_false.1 h1 p hp
      simpa using this
    refine ⟨List.pairwise_cons.2 ⟨fun y hy => i2 r (by simp) y hy, i1⟩, fun p hp' x hx => ?_⟩
    rcases List.mem_cons.1 hx with rfl | hx
    · exact hp p hp'
    · exact i2 p (by simp [hp']) x hx
theorem tos_apart {x y : Rule} (h : twiceR x y = false) (hx : x.2.2.1 ≠ 0) : x.2.2.1 ≠ y.2.2.1 := by
  intro e
  unfold twiceR at h
  rw [Bool.or_eq_false_iff] at h
  have := h.2
  rw [decide_eq_false hx, decide_eq_true e] at this
  cases this
theorem pair_mem {l : List Rule} (h : l.Pairwise fun x y => twiceR x y = false) : ∀ x ∈ l, ∀ y ∈ l, x ≠ y → twiceR x y = false := by
  induction l with
  | nil => intro x hx; cases hx
  | cons r l ih =>
    obtain ⟨h1, h2⟩ := List.pairwise_cons.1 h
    intro x hx y hy hne
    rcases List.mem_cons.1 hx with e1 | hx1
    · rcases List.mem_cons.1 hy with e2 | hy1
      · exact absurd (e1.trans e2.symm) hne
      · rw [e1]; exact h1 y hy1
    · rcases List.mem_cons.1 hy with e2 | hy1
      · rw [twice_symm, e2]; exact h1 x hx1
      · exact ih h2 x hx1 y hy1 hne
end Groat
set_option linter.unusedVariables false
set_option linter.unusedSimpArgs false
namespace Groat
open Go Go.Ref
theorem fieldsC_none {s : Schema} : ∀ {l : List Val} {last : Int}, fieldsC s l last = none ↔ (∀ v ∈ l, hasS s v.1 = true ∧ valC (getS s v.1) v.2.1 = 0) ∧ Ris l ∧ ∀ v ∈ l, last < v.1
  | [], last => by simp [fieldsC, Ris]
  | x :: r, last => by
    rw [fieldsC]
    by_cases h1 : x.1 ≤ last
    · rw [decide_eq_true h1, cond_true]
      refine ⟨fun h => (by cases h), fun h => ?_⟩
      have := h.2.2 x List.mem_cons_self
      omega
    rw [decide_eq_false h1, cond_false]
    cases h2 : hasS s x.1 with
    | false =>
      refine ⟨fun h => (by cases h), fun h => ?_⟩
      have := (h.1 x List.mem_cons_self).1
      rw [h2] at this; cases this
    | true =>
      rw [Bool.not_true, cond_false]
      by_cases h3 : valC (getS s x.1) x.2.1 = 0
      · rw [decide_eq_true h3, Bool.not_true, cond_false, fieldsC_none]
        constructor
        · rintro ⟨g1, g2, g3⟩
          refine ⟨fun v hv => ?_, List.pairwise_cons.2 ⟨g3, g2⟩, fun v hv => ?_⟩
          · rcases List.mem_cons.1 hv with rfl | hv
            · exact ⟨h2, h3⟩
            · exact g1 v hv
          · rcases List.mem_cons.1 hv with rfl | hv
            · omega
            · have := g3 v hv; omega
        · rintro ⟨g1, g2, g3⟩
          have g2 := List.pairwise_cons.1 g2
          exact ⟨fun v hv => g1 v (List.mem_cons_of_mem _ hv), g2.2, g2.1⟩
      · rw [decide_eq_false h3, Bool.not_false, cond_true]
        refine ⟨fun h => (by cases h), fun h => ?_⟩
        exact absurd (h.1 x List.mem_cons_self).2 h3
theorem fieldsC_some {s : Schema} : ∀ {l : List Val} {last : Int} {f : Fault}, fieldsC s l last = some f → f.1 ≠ 0
  | [], last, f, h => by cases h
  | x :: r, last, f, h => by
    rw [fieldsC] at h
    cases h1 : decide (x.1 ≤ last) with
    | true => rw [h1] at h; cases h; exact (by decide : (11 : Int) ≠ 0)
    | false =>
      rw [h1, cond_false] at h
      cases h2 : hasS s x.1 with
      | false => rw [h2] at h; cases h; exact (by decide : (9 : Int) ≠ 0)
      | true =>
        rw [h2, Bool.not_true, cond_false] at h
        by_cases h3 : valC (getS s x.1) x.2.1 = 0
        · rw [decide_eq_true h3, Bool.not_true, cond_false] at h
          exact fieldsC_some h
        · rw [decide_eq_false h3, Bool.not_false, cond_true] at h
          cases h
          exact h3
structure Msg0 (s : Schema) (m : Msg) : Prop where
  sch : (schemaC s).1 = 0
  right : rightM m.1 = true
  ver : verM m.1 = s.2.1
  flds : fieldsC s m.2.1 0 = none
theorem msg0_iff {s : Schema} {m : Msg} : (msgC s m).1 = 0 ↔ Msg0 s m := by
  unfold msgC
  by_cases h1 : (schemaC s).1 = 0
  · rw [decide_eq_true h1, Bool.not_true, cond_false]
    cases h2 : rightM m.1 with
    | false => exact ⟨fun h => absurd h (show ¬ (7 : Int) = 0 by decide), fun h => by have := h.right; rw [h2] at this; cases this⟩
    | true =>
      rw [Bool.not_true, cond_false]
      by_cases h3 : verM m.1 = s.2.1
      · rw [decide_eq_true h3, Bool.not_true, cond_false]
        cases h4 : fieldsC s m.2.1 0 with
        | none => exact ⟨fun _ => ⟨h1, h2, h3, h4⟩, fun _ => rfl⟩
        | some f => exact ⟨fun h => absurd h (fieldsC_some h4), fun h => by have := h.flds; rw [h4] at this; cases this⟩
      · rw [decide_eq_false h3]
        exact ⟨fun h => absurd h (show ¬ (7 : Int) = 0 by decide), fun h => absurd h.ver h3⟩
  · rw [decide_eq_false h1]
    exact ⟨fun h => absurd h (show ¬ (1 : Int) = 0 by decide), fun h => absurd h.sch h1⟩
theorem Msg0.eq {s : Schema} {m : Msg} (h : Msg0 s m) : msgC s m = fault0 := by
  unfold msgC
  rw [decide_eq_true h.sch, h.right, decide_eq_true h.ver, h.flds]; rfl
theorem has_range2 {s : Schema} (h : Okay s) {no : Int} (hh : hasS s no = true) : 2 ≤ no ∧ no ≤ 128 := by
  have := (specC_facts (okay_spec h hh)).1
  rw [(getS_mem hh).2] at this
  exact this
theorem applyR_to {q : Rule} {b : Schema} {t : ByteArray} (h : (applyR q b t).2 = 0) (hz : (applyR q b t).1.1 ≠ 0) : q.1 ≠ 2 ∧ (applyR q b t).1.1 = q.2.2.1 := by
  unfold applyR at h hz ⊢
  by_cases k1 : q.1 = 1
  · rw [decide_eq_true k1, cond_true]; exact ⟨by omega, rfl⟩
  rw [decide_eq_false k1, cond_false] at h hz ⊢
  by_cases k2 : q.1 = 2
  · rw [decide_eq_true k2, cond_true] at hz; exact absurd rfl hz
  rw [decide_eq_false k2, cond_false] at h hz ⊢
  refine ⟨k2, ?_⟩
  by_cases k3 : q.1 = 3
  · rw [decide_eq_true k3, cond_true]
  rw [decide_eq_false k3, cond_false] at h hz ⊢
  by_cases k4 : q.1 = 4
  · rw [decide_eq_true k4, cond_true] at h hz ⊢
    cases hs : hasS b q.2.2.1 with
    | false => rw [hs] at h; cases h
    | true =>
      rw [hs] at h
      rw [Bool.not_true, cond_false] at h ⊢
      cases hp : (padD t (getS b q.2.2.1).2.2.2.1).2 with
      | false => rw [hp] at h; cases h
      | true => rfl
  rw [decide_eq_false k4, cond_false] at h hz ⊢
  by_cases k5 : q.1 = 5
  · rw [decide_eq_true k5, cond_true] at h hz ⊢
    cases hp : (applyP q.2.2.2.2.1 t).2 with
    | false => rw [hp] at h; cases h
    | true => rfl
  · rw [decide_eq_false k5, cond_false] at hz; exact absurd rfl hz
theorem some0_mem {l : List Val} {v : Val} : v ∈ some0 l ↔ v ∈ l ∧ v.1 ≠ 0 := by
  unfold some0
  rw [List.mem_filter]
  simp
section
variable {m : Map} {a b : Schema}
theorem Map0.pairs (h : Map0 m a b) : m.2.1.Pairwise fun x y => twiceR x y = false := (noTwice_pair h.twice).1
theorem Map0.okA (h : Map0 m a b) : Okay a := (schemaC_ok a).1 h.sa
theorem Map0.okB (h : Map0 m a b) : Okay b := (schemaC_ok b).1 h.sb
theorem Map0.to (h : Map0 m a b) {r : Rule} (hr : r ∈ m.2.1) (k : r.1 ≠ 2) : hasS b r.2.2.1 = true := (ends_zero (ruleC_zero (h.rules r hr)).2.1).2.2.2 k
theorem Map0.to0 (h : Map0 m a b) {r : Rule} (hr : r ∈ m.2.1) (k : r.1 ≠ 2) : r.2.2.1 ≠ 0 := by
  have := has_range2 h.okB (h.to hr k)
  omega
theorem ys_apart (h : Map0 m a b) : ∀ {l ys : List Val}, Ris l → fieldsV m b l = .inr ys → Apart (some0 ys)
  | [], ys, _, hy => by cases hy; exact List.Pairwise.nil
  | v :: r, ys, hr, hy => by
    rw [fieldsV] at hy
    have hr := List.pairwise_cons.1 hr
    cases hf : findR m v.1 with
    | none => rw [hf] at hy; cases hy
    | some q =>
      rw [hf] at hy
      dsimp only at hy
      cases hz : decide ((applyR q b v.2.1).2 = 0) with
      | false => rw [hz] at hy; cases hy
      | true =>
        rw [hz, Bool.not_true, cond_false] at hy
        cases hv : fieldsV m b r with
        | inl f => rw [hv] at hy; cases hy
        | inr zs =>
          rw [hv] at hy
          cases hy
          have ih := ys_apart h hr.2 hv
          unfold some0 at ih ⊢
          rw [List.filter_cons]
          split
          · rename_i hnz
            have hnz : (applyR q b v.2.1).1.1 ≠ 0 := by simpa using hnz
            refine List.pairwise_cons.2 ⟨fun z hzm => ?_, ih⟩
            obtain ⟨z1, z2⟩ := some0_mem.1 hzm
            obtain ⟨w, hw, q', hf', h0', rfl⟩ := fieldsV_mem hv z z1
            obtain ⟨a1, a2⟩ := applyR_to (of_decide_eq_true hz) hnz
            obtain ⟨b1, b2⟩ := applyR_to h0' z2
            rw [a2, b2]
            obtain ⟨qm, qf⟩ := findR_mem hf
            obtain ⟨qm', qf'⟩ := findR_mem hf'
            have hlt := hr.1 w hw
            have hne : q ≠ q' := fun e => by subst e; omega
            exact tos_apart (pair_mem h.pairs q qm q' qm' hne) (h.to0 qm a1)
          · exact ih
theorem consts_mem {l : List Rule} {v : Val} : v ∈ constL l ↔ ∃ r ∈ l, r.1 = 3 ∧ v = (r.2.2.1, r.2.2.2.1, ()) := by
  unfold constL
  rw [List.mem_map]
  constructor
  · rintro ⟨r, hr, rfl⟩
    rw [List.mem_filter] at hr
    exact ⟨r, hr.1, of_decide_eq_true hr.2, rfl⟩
  · rintro ⟨r, hr, k, rfl⟩
    exact ⟨r, List.mem_filter.2 ⟨hr, decide_eq_true k⟩, rfl⟩
theorem consts_apart (h : Map0 m a b) : Apart (constL m.2.1) := by
  unfold constL
  refine List.pairwise_map.2 ?_
  refine List.Pairwise.imp_of_mem ?_ (h.pairs.filter _)
  intro x y hx hy hxy
  have hx := List.mem_filter.1 hx
  have k : x.1 = 3 := of_decide_eq_true hx.2
  exact tos_apart hxy (h.to0 hx.1 (by omega))
theorem cross_apart (h : Map0 m a b) {l ys : List Val} (hl : ∀ v ∈ l, hasS a v.1 = true) (hy : fieldsV m b l = .inr ys) : ∀ c ∈ constL m.2.1, ∀ y ∈ some0 ys, c.1 ≠ y.1 := by
  intro c hc y hym
  obtain ⟨r, hr, k, rfl⟩ := consts_mem.1 hc
  obtain ⟨y1, y2⟩ := some0_mem.1 hym
  obtain ⟨w, hw, q, hf, h0, rfl⟩ := fieldsV_mem hy y y1
  obtain ⟨b1, b2⟩ := applyR_to h0 y2
  rw [b2]
  obtain ⟨qm, qf⟩ := findR_mem hf
  have hwr := has_range2 h.okA (hl w hw)
  have hz := (ends_zero (ruleC_zero (h.rules r hr)).2.1).1 k
  have hne : r ≠ q := fun e => by subst e; omega
  exact tos_apart (pair_mem h.pairs r hr q qm hne) (h.to0 hr (by omega))
theorem all_apart (h : Map0 m a b) {l ys : List Val} (hr : Ris l) (hl : ∀ v ∈ l, hasS a v.1 = true) (hy : fieldsV m b l = .inr ys) : Apart (constL m.2.1 ++ some0 ys) :=
  List.pairwise_append.2 ⟨consts_apart h, ys_apart h hr hy, cross_apart h hl hy⟩
theorem all_range (h : Map0 m a b) {l ys : List Val} (hy : fieldsV m b l = .inr ys) : ∀ v ∈ constL m.2.1 ++ some0 ys, hasS b v.1 = true := by
  intro v hv
  rcases List.mem_append.1 hv with hv | hv
  · obtain ⟨r, hr, k, rfl⟩ := consts_mem.1 hv
    exact h.to hr (by omega)
  · obtain ⟨y1, y2⟩ := some0_mem.1 hv
    obtain ⟨w, hw, q, hf, h0, rfl⟩ := fieldsV_mem hy v y1
    obtain ⟨b1, b2⟩ := applyR_to h0 y2
    rw [b2]
    exact h.to (findR_mem hf).1 b1
end
def bucket (vs : List Val) : Nat → Nat → List Val
  | 0, _ => []
  | n + 1, k => (vs.filter fun v => decide (v.1 = (k : Int))) ++ bucket vs n (k + 1)
theorem bucket_mem {vs : List Val} {v : Val} : ∀ {n k : Nat}, v ∈ bucket vs n k ↔ v ∈ vs ∧ (k : Int) ≤ v.1 ∧ v.1 < ((k + n : Nat) : Int)
  | 0, k => by simp only [bucket, List.not_mem_nil, false_iff]; omega
  | n + 1, k => by
    rw [bucket, List.mem_append, List.mem_filter, decide_eq_true_eq, bucket_mem]
    constructor
    · rintro (⟨h1, h2⟩ | ⟨h1, h2, h3⟩)
      · exact ⟨h1, by omega, by omega⟩
      · exact ⟨h1, by omega, by omega⟩
    · rintro ⟨h1, h2, h3⟩
      by_cases e : v.1 = (k : Int)
      · exact .inl ⟨h1, e⟩
      · exact .inr ⟨h1, by omega, by omega⟩
theorem bucket_ris {vs : List Val} (h : Apart (some0 vs)) : ∀ (n k : Nat), 1 ≤ k → Ris (bucket vs n k)
  | 0, k, _ => List.Pairwise.nil
  | n + 1, k, hk => by
    rw [bucket]
    refine List.pairwise_append.2 ⟨?_, bucket_ris h n (k + 1) (by omega), fun x hx y hy => ?_⟩
    · have e : (vs.filter fun v => decide (v.1 = (k : Int))) = (some0 vs).filter fun v => decide (v.1 = (k : Int)) := by
        unfold some0
        rw [List.filter_filter]
        congr 1
        funext v
        by_cases hv : v.1 = (k : Int)
        · rw [decide_eq_true hv, decide_eq_false (by omega : ¬ v.1 = 0)]; rfl
        · rw [decide_eq_false hv]; rfl
      rw [e]
      refine List.Pairwise.imp_of_mem ?_ (h.filter _)
      intro x y hx hy hne
      have h1 := of_decide_eq_true (List.mem_filter.1 hx).2
      have h2 := of_decide_eq_true (List.mem_filter.1 hy).2
      omega
    · have h1 := of_decide_eq_true (List.mem_filter.1 hx).2
      have h2 := (bucket_mem.1 hy).2.1
      omega
def transD (m : Map) (a b : Schema) (x : Msg) : Msg × Fault :=
  bif !decide ((mapC m a b).1 = 0) then (msg0, (1, -1, ())) else bif !decide ((msgC a x).1 = 0) then (msg0, msgC a x) else bif !(applyP m.1 x.1).2 then (msg0, (7, 0, ()))
  else match fieldsV m b x.2.1 with
    | .inl f => (msg0, f)
    | .inr ys => (((applyP m.1 x.1).1, bucket (ys ++ constL m.2.1) 127 2, ()), fault0)
theorem some0_append (l r : List Val) : some0 (l ++ r) = some0 l ++ some0 r := by unfold some0; rw [List.filter_append]
theorem some0_consts {m : Map} {a b : Schema} (h : Map0 m a b) : some0 (constL m.2.1) = constL m.2.1 := by
  unfold some0
  refine List.filter_eq_self.2 fun v hv => ?_
  obtain ⟨r, hr, k, rfl⟩ := consts_mem.1 hv
  have := h.to0 hr (by omega)
  simpa using this
theorem apart_swap {l r : List Val} (h : Apart (l ++ r)) : Apart (r ++ l) := by
  obtain ⟨h1, h2, h3⟩ := List.pairwise_append.1 h
  exact List.pairwise_append.2 ⟨h2, h1, fun x hx y hy e => h3 y hy x hx e.symm⟩
theorem both_same {m : Map} {a b : Schema} (h : Map0 m a b) {l ys : List Val} (hr : Ris l) (hl : ∀ v ∈ l, hasS a v.1 = true) (hy : fieldsV m b l = .inr ys) (t : ByteArray) :
    putAll (some0 ys) (constsM m.2.1 (t, [], ())) = (t, bucket (ys ++ constL m.2.1) 127 2, ()) := by
  rw [constsM_put, ← putAll_append]
  have hap := all_apart h hr hl hy
  have hs : some0 (ys ++ constL m.2.1) = some0 ys ++ constL m.2.1 := by rw [some0_append, some0_consts h]
  refine msg_ext.2 ⟨putAll_head _ _, ?_⟩
  refine ris_ext (putAll_ris _ List.Pairwise.nil) (bucket_ris (by rw [hs]; exact apart_swap hap) 127 2 (by omega)) fun v => ?_
  rw [putAll_mem _ _ hap (fun _ _ w hw => by cases hw) v, bucket_mem]
  constructor
  · rintro (hv | hv)
    · cases hv
    · have hb := has_range2 h.okB (all_range h hy v hv)
      refine ⟨?_, by omega, by omega⟩
      rcases List.mem_append.1 hv with hv | hv
      · exact List.mem_append_right _ hv
      · exact List.mem_append_left _ (some0_mem.1 hv).1
  · rintro ⟨hv, h1, h2⟩
    right
    rcases List.mem_append.1 hv with hv | hv
    · exact List.mem_append_right _ (some0_mem.2 ⟨hv, by omega⟩)
    · exact List.mem_append_left _ hv
theorem trans_same (m : Map) (a b : Schema) (x : Msg) : transC m a b x = transD m a b x := by
  unfold transC transD
  by_cases h1 : (mapC m a b).1 = 0
  · rw [decide_eq_true h1, Bool.not_true, cond_false, cond_false]
    by_cases h2 : (msgC a x).1 = 0
    · rw [decide_eq_true h2, Bool.not_true, cond_false, cond_false]
      cases (applyP m.1 x.1).2 with
      | false => rfl
      | true =>
        rw [Bool.not_true, cond_false, cond_false]
        obtain ⟨g1, g2, g3⟩ := fieldsC_none.1 (msg0_iff.1 h2).flds
        rcases fieldsT_put m b x.2.1 (constsM m.2.1 ((applyP m.1 x.1).1, [], ())) with ⟨f, o, e1, e2⟩ | ⟨ys, e1, e2⟩
        · rw [e1, e2]
        · rw [e1, e2]
          dsimp only
          rw [both_same (map0_iff.1 h1) g2 (fun v hv => (g1 v hv).1) e2]
    · rw [decide_eq_false h2]; rfl
  · rw [decide_eq_false h1]; rfl
end Groat
set_option linter.unusedVariables false
set_option linter.unusedSimpArgs false
namespace Groat
open Go Go.Ref
abbrev tSpec : Ty := .pair (.int .i64) (.pair (.int .i64) (.pair (.int .i64) (.pair (.int .i64) (.pair (.int .i64) .unit))))
abbrev tSchema : Ty := .pair (.int .i64) (.pair (.int .i64) (.pair (.sl 0 tSpec) .unit))
end Groat
set_option linter.unusedVariables false
set_option linter.unusedSimpArgs false
namespace Groat
open Go Go.Ref
abbrev tPair : Ty := .pair .str (.pair .str .unit)
abbrev tRule : Ty := .pair (.int .i64) (.pair (.int .i64) (.pair (.int .i64) (.pair .str (.pair (.sl 0 tPair) .unit))))
abbrev tMap : Ty := .pair (.sl 0 tPair) (.pair (.sl 0 tRule) .unit)
def small (n : Nat) (l : List Pair) : Bool := l.all fun p => !decide ((n : Int) < (p.1.size : Int)) && !decide ((n : Int) < (p.2.1.size : Int))
theorem small_sz {n : Nat} {l : List Pair} (hn : n ≤ 1200) (h : small n l = true) : ∀ p ∈ l, p.1.size ≤ 1099511627776 ∧ p.2.1.size ≤ 1099511627776 := fun p hp => by
  have := List.all_eq_true.1 h p hp
  simp only [Bool.and_eq_true, Bool.not_eq_true', decide_eq_false_iff_not] at this
  omega
def grR (t : Bool) : Option (Sum Bool Unit) := some (bif t then .inr () else .inl true)
theorem gr_run : ∀ (l : List Pair) (i : Int), runI (fun i (p : Pair) (s : Unit) K => bif (decide (1200 < ((p.1).size : Int))) then some (Sum.inl true) else (bif (decide (1200 < ((p.2.1).size : Int))) then some (Sum.inl true) else K s)) (fun _ => some (Sum.inr ())) l i () = grR (small 1200 l)
  | [], i => rfl
  | p :: r, i => by
    simp only [runI, small, List.all_cons]
    by_cases h1 : (1200 : Int) < (p.1.size : Int)
    · rw [decide_eq_true h1, decide_eq_true (show ((1200 : Nat) : Int) < (p.1.size : Int) from h1)]; rfl
    · rw [decide_eq_false h1, decide_eq_false (show ¬ ((1200 : Nat) : Int) < (p.1.size : Int) from h1)]
      by_cases h2 : (1200 : Int) < (p.2.1.size : Int)
      · rw [decide_eq_true h2, decide_eq_true (show ((1200 : Nat) : Int) < (p.2.1.size : Int) from h2)]; rfl
      · rw [decide_eq_false h2, decide_eq_false (show ¬ ((1200 : Nat) : Int) < (p.2.1.size : Int) from h2)]
        exact gr_run r (i + 1)
def greatR (r : Rule) : Bool := decide ((1200 : Int) < (r.2.2.2.1.size : Int)) || (decide ((300 : Int) < (r.2.2.2.2.1.length : Int)) || !small 1200 r.2.2.2.2.1)
theorem Great20_eq (r : Rule) (h : r.2.2.2.2.1.length ≤ maxLen) : groatref20_Great r = some (greatR r) := by
  unfold groatref20_Great groatref20_Great_s0 greatR
  cases decide ((1200 : Int) < (r.2.2.2.1.size : Int)) with
  | true => rfl
  | false =>
    cases decide ((300 : Int) < (r.2.2.2.2.1.length : Int)) with
    | true => rfl
    | false =>
      simp only [cond_false, Bool.false_or]
      have := loopJ pair0 r.2.2.2.2.1 h (fun i (p : Pair) (s : Unit) K => bif (decide (1200 < ((p.1).size : Int))) then some (Sum.inl true) else (bif (decide (1200 < ((p.2.1).size : Int))) then some (Sum.inl true) else K s)) (fun _ => some (Sum.inr ()))
        (fun k i s => groatref20_Great_l0 k i r) (fun k i s h0 h1 => by
          show groatref20_Great_l0 (k + 1) i r = _
          conv => lhs; unfold groatref20_Great_l0 groatref20_Great_s1
          rw [decide_eq_true h1, cond_true, within_int h0 h1, within_int h0 h1]
          rfl) (fun k s => by
          show groatref20_Great_l0 (k + 1) r.2.2.2.2.1.length r = _
          conv => lhs; unfold groatref20_Great_l0 groatref20_Great_s1
          rw [decide_eq_false (by omega), cond_false]) ()
      rw [this, gr_run]
      unfold grR
      cases small 1200 r.2.2.2.2.1 <;> rfl
theorem greatR_ok {r : Rule} (h : greatR r = false) : RuleOk r := by
  unfold greatR at h
  simp only [Bool.or_eq_false_iff, decide_eq_false_iff_not, Bool.not_eq_false'] at h
  obtain ⟨h1, h2, h3⟩ := h
  exact ⟨by omega, by omega, small_sz (by omega) h3⟩
theorem gm_run (m : Map) : ∀ (l : List Pair) (i : Int), runI (fun i (p : Pair) (s : Unit) K => bif (decide (100 < ((p.1).size : Int))) then some (Sum.inl (true, m)) else (bif (decide (100 < ((p.2.1).size : Int))) then some (Sum.inl (true, m)) else K s)) (fun _ => some (Sum.inr m)) l i () = some (bif small 100 l then .inr m else .inl (true, m))
  | [], i => rfl
  | p :: r, i => by
    simp only [runI, small, List.all_cons]
    by_cases h1 : (100 : Int) < (p.1.size : Int)
    · rw [decide_eq_true h1, decide_eq_true (show ((100 : Nat) : Int) < (p.1.size : Int) from h1)]; rfl
    · rw [decide_eq_false h1, decide_eq_false (show ¬ ((100 : Nat) : Int) < (p.1.size : Int) from h1)]
      by_cases h2 : (100 : Int) < (p.2.1.size : Int)
      · rw [decide_eq_true h2, decide_eq_true (show ((100 : Nat) : Int) < (p.2.1.size : Int) from h2)]; rfl
      · rw [decide_eq_false h2, decide_eq_false (show ¬ ((100 : Nat) : Int) < (p.2.1.size : Int) from h2)]
        exact gm_run m r (i + 1)
theorem gl_run : ∀ (l : List Rule) (i : Int), (∀ r ∈ l, r.2.2.2.2.1.length ≤ maxLen) → runI (fun i (x : Rule) (s : Unit) K => ((groatref20_Great x).bind fun r1 => (bif r1 then some (Sum.inl true) else K s))) (fun _ => some (Sum.inr ())) l i () = some (bif l.any greatR then Sum.inl true else Sum.inr ())
  | [], i, _ => rfl
  | r :: l, i, h => by
    simp only [runI, List.any_cons]
    rw [Great20_eq r (h r List.mem_cons_self), Option.bind_some]
    cases greatR r with
    | true => rfl
    | false => exact gl_run l (i + 1) fun q hq => h q (List.mem_cons_of_mem _ hq)
def greatM (m : Map) : Bool := decide ((300 : Int) < (m.1.length : Int)) || (decide ((300 : Int) < (m.2.1.length : Int)) || (!small 100 m.1 || m.2.1.any greatR))
theorem Great21_eq (m : Map) (h1 : m.1.length ≤ maxLen) (h2 : m.2.1.length ≤ maxLen) (h3 : ∀ r ∈ m.2.1, r.2.2.2.2.1.length ≤ maxLen) : groatref21_Great m = some (greatM m) := by
  unfold groatref21_Great groatref21_Great_s0 greatM
  cases decide ((300 : Int) < (m.1.length : Int)) with
  | true => rfl
  | false =>
    cases decide ((300 : Int) < (m.2.1.length : Int)) with
    | true => rfl
    | false =>
      simp only [cond_false, Bool.false_or]
      have e1 := loopJ pair0 m.1 h1 (fun i (p : Pair) (s : Unit) K => bif (decide (100 < ((p.1).size : Int))) then some (Sum.inl (true, m)) else (bif (decide (100 < ((p.2.1).size : Int))) then some (Sum.inl (true, m)) else K s)) (fun _ => some (Sum.inr m))
        (fun k i s => groatref21_Great_l0 k i m) (fun k i s h0 h1 => by
          show groatref21_Great_l0 (k + 1) i m = _
          conv => lhs; unfold groatref21_Great_l0 groatref21_Great_s1
          rw [decide_eq_true h1, cond_true, within_int h0 h1, within_int h0 h1]
          rfl) (fun k s => by
          show groatref21_Great_l0 (k + 1) m.1.length m = _
          conv => lhs; unfold groatref21_Great_l0 groatref21_Great_s1
          rw [decide_eq_false (by omega), cond_false]) ()
      rw [e1, gm_run]
      cases small 100 m.1 with
      | false => rfl
      | true =>
        simp only [cond_true, Option.bind_some, Sum.elim_inr, Bool.not_true, Bool.false_or]
        unfold groatref21_Great_s3
        have e2 := loopI rule0 m.2.1 h2 (fun i (x : Rule) (s : Unit) K => ((groatref20_Great x).bind fun r1 => (bif r1 then some (Sum.inl true) else K s))) (fun _ => some (Sum.inr ()))
          (fun k i s => groatref21_Great_l1 k i m) (fun k i s => rfl) ()
        dsimp only
        rw [e2, gl_run _ _ h3]
        cases m.2.1.any greatR <;> rfl
theorem greatM_ok {m : Map} (h : greatM m = false) : MapOk m := by
  unfold greatM at h
  simp only [Bool.or_eq_false_iff, decide_eq_false_iff_not, Bool.not_eq_false'] at h
  obtain ⟨h1, h2, h3, h4⟩ := h
  refine ⟨⟨by omega, small_sz (by omega) h3⟩, by omega, fun r hr => greatR_ok ?_⟩
  cases hg : greatR r with
  | false => rfl
  | true => rw [List.any_eq_true.2 ⟨r, hr, hg⟩] at h4; cases h4
theorem wf_great {m : Map} (h : Wf tMap m) : groatref21_Great m = some (greatM m) :=
  Great21_eq m h.1.1 h.2.1.1 fun r hr => (h.2.1.2 r hr).2.2.2.2.1.1
theorem two_of {s : List Schema} (h : s.length = 2) : ∃ a b, s = [a, b] := by
  match s, h with
  | [a, b], _ => exact ⟨a, b, rfl⟩
end Groat
set_option linter.unusedVariables false
set_option linter.unusedSimpArgs false
namespace Groat
open Go Go.Ref
theorem applyR_size {r : Rule} {b : Schema} {t : ByteArray} (ht : t.size ≤ 1099511627776) (hr : RuleOk r) : (applyR r b t).1.2.1.size ≤ 1099511627776 := by
  have h0 : (bs []).size ≤ 1099511627776 := by decide
  unfold applyR
  cases decide (r.1 = 1) with
  | true => exact ht
  | false =>
    rw [cond_false]
    cases decide (r.1 = 2) with
    | true => exact h0
    | false =>
      rw [cond_false]
      cases decide (r.1 = 3) with
      | true => exact hr.text
      | false =>
        rw [cond_false]
        cases decide (r.1 = 4) with
        | true =>
          rw [cond_true]
          cases hasS b r.2.2.1 with
          | false => exact h0
          | true =>
            rw [Bool.not_true, cond_false]
            cases hp : (padD t (getS b r.2.2.1).2.2.2.1).2 with
            | false => exact h0
            | true =>
              obtain ⟨p1, p2, p3, p4⟩ := padD_ok hp
              show (padD t (getS b r.2.2.1).2.2.2.1).1.size ≤ _
              omega
        | false =>
          rw [cond_false]
          cases decide (r.1 = 5) with
          | true =>
            rw [cond_true]
            cases hp : (applyP r.2.2.2.2.1 t).2 with
            | false => exact h0
            | true =>
              obtain ⟨p, hm, _, hq⟩ := applyP_mem hp
              show (applyP r.2.2.2.2.1 t).1.size ≤ _
              rw [hq]
              exact (hr.pairs.sz p hm).2
          | false => exact h0
theorem fieldsV_some {m : Map} {b : Schema} : ∀ {l : List Val} {f : Fault}, fieldsV m b l = .inl f → f.1 ≠ 0
  | [], f, h => by cases h
  | v :: r, f, h => by
    rw [fieldsV] at h
    cases hf : findR m v.1 with
    | none => rw [hf] at h; cases h; exact (by decide : (9 : Int) ≠ 0)
    | some q =>
      rw [hf] at h
      dsimp only at h
      by_cases hz : (applyR q b v.2.1).2 = 0
      · rw [decide_eq_true hz, Bool.not_true, cond_false] at h
        cases hr : fieldsV m b r with
        | inl g => rw [hr] at h; cases h; exact fieldsV_some hr
        | inr ys => rw [hr] at h; cases h
      · rw [decide_eq_false hz, Bool.not_false, cond_true] at h
        cases h; exact hz
structure Done21 (m : Map) (a b : Schema) (x : Msg) (ys : List Val) : Prop where
  map : Map0 m a b
  msg : Msg0 a x
  head : (applyP m.1 x.1).2 = true
  vals : fieldsV m b x.2.1 = .inr ys
theorem trans_cases (m : Map) (a b : Schema) (x : Msg) : (∃ f, f.1 ≠ 0 ∧ transC m a b x = (msg0, f)) ∨ ∃ ys, Done21 m a b x ys ∧ transC m a b x = (((applyP m.1 x.1).1, bucket (ys ++ constL m.2.1) 127 2, ()), fault0) := by
  rw [trans_same]
  unfold transD
  by_cases h1 : (mapC m a b).1 = 0
  · rw [decide_eq_true h1, Bool.not_true, cond_false]
    by_cases h2 : (msgC a x).1 = 0
    · rw [decide_eq_true h2, Bool.not_true, cond_false]
      cases h3 : (applyP m.1 x.1).2 with
      | false => exact .inl ⟨_, by decide, rfl⟩
      | true =>
        rw [Bool.not_true, cond_false]
        cases h4 : fieldsV m b x.2.1 with
        | inl f => exact .inl ⟨f, fieldsV_some h4, rfl⟩
        | inr ys => exact .inr ⟨ys, ⟨map0_iff.1 h1, msg0_iff.1 h2, h3, h4⟩, rfl⟩
    · rw [decide_eq_false h2]; exact .inl ⟨_, h2, rfl⟩
  · rw [decide_eq_false h1]; exact .inl ⟨_, by decide, rfl⟩
theorem Done21.eq {m : Map} {a b : Schema} {x : Msg} {ys : List Val} (h : Done21 m a b x ys) : transC m a b x = (((applyP m.1 x.1).1, bucket (ys ++ constL m.2.1) 127 2, ()), fault0) := by
  rw [trans_same]
  unfold transD
  rw [decide_eq_true (map0_iff.2 h.map), Bool.not_true, cond_false, decide_eq_true (msg0_iff.2 h.msg), Bool.not_true, cond_false, h.head, h.vals]
  rfl
section
variable {m : Map} {a b : Schema} {x : Msg} {ys : List Val}
theorem Done21.flds (h : Done21 m a b x ys) : (∀ v ∈ x.2.1, hasS a v.1 = true ∧ valC (getS a v.1) v.2.1 = 0) ∧ Ris x.2.1 ∧ ∀ v ∈ x.2.1, 0 < v.1 := fieldsC_none.1 h.msg.flds
theorem Done21.ris (h : Done21 m a b x ys) : Ris (bucket (ys ++ constL m.2.1) 127 2) := by
  obtain ⟨g1, g2, g3⟩ := h.flds
  refine bucket_ris ?_ 127 2 (by omega)
  rw [some0_append, some0_consts h.map]
  exact apart_swap (all_apart h.map g2 (fun v hv => (g1 v hv).1) h.vals)
theorem Done21.mem (h : Done21 m a b x ys) (v : Val) : v ∈ bucket (ys ++ constL m.2.1) 127 2 ↔ v ∈ constL m.2.1 ∨ (v ∈ ys ∧ v.1 ≠ 0) := by
  rw [bucket_mem, List.mem_append]
  have hr := all_range h.map h.vals
  constructor
  · rintro ⟨h1 | h1, h2, h3⟩
    · exact .inr ⟨h1, by omega⟩
    · exact .inl h1
  · rintro (h1 | ⟨h1, h2⟩)
    · have := has_range2 h.map.okB (hr v (List.mem_append_left _ h1))
      exact ⟨.inr h1, by omega, by omega⟩
    · have := has_range2 h.map.okB (hr v (List.mem_append_right _ (some0_mem.2 ⟨h1, h2⟩)))
      exact ⟨.inl h1, by omega, by omega⟩
theorem Done21.valid (h : Done21 m a b x ys) (hm : MapOk m) (hx : MsgOk x) : ∀ v ∈ bucket (ys ++ constL m.2.1) 127 2, hasS b v.1 = true ∧ v.2.1.size ≤ 1099511627776 ∧ valC (getS b v.1) v.2.1 = 0 := by
  intro v hv
  obtain ⟨g1, g2, g3⟩ := h.flds
  rcases (h.mem v).1 hv with hv | ⟨hv, hz⟩
  · obtain ⟨r, hr, k, rfl⟩ := consts_mem.1 hv
    have hc := (ruleC_zero (h.map.rules r hr)).2.2.2
    unfold kindC at hc
    rw [decide_eq_false (by omega : ¬ r.1 = 1), decide_eq_true k, cond_false, cond_true] at hc
    exact ⟨h.map.to hr (by omega), (hm.rules r hr).text, hc⟩
  · obtain ⟨w, hw, q, hf, h0, rfl⟩ := fieldsV_mem h.vals v hv
    obtain ⟨b1, b2⟩ := applyR_to h0 hz
    obtain ⟨qm, qf⟩ := findR_mem hf
    have hwt := hx.txt w hw
    have := (apply_valid (r := q) (a := a) (b := b) hwt (hm.rules q qm) (h.map.rules q qm) h.map.okB (fun _ => by rw [qf]; exact (g1 w hw).2)).2 h0
    obtain ⟨e1, e2, e3⟩ := this.2 b1
    rw [b2]
    exact ⟨e2, applyR_size hwt (hm.rules q qm), e3⟩
theorem versM_iff {t : ByteArray} {v : Int} (h : versM t v = true) : rightM t = true ∧ verM t = v := by
  unfold versM at h
  rw [Bool.and_eq_true, decide_eq_true_eq] at h
  refine ⟨h.1, ?_⟩
  unfold verM
  rw [h.1]; exact h.2
theorem Done21.mti (h : Done21 m a b x ys) : rightM (applyP m.1 x.1).1 = true ∧ verM (applyP m.1 x.1).1 = b.2.1 := by
  obtain ⟨p, hp, _, e⟩ := applyP_mem h.head
  have ht := h.map.typed p hp
  unfold typedP at ht
  rw [Bool.and_eq_true, Bool.and_eq_true] at ht
  rw [e]
  exact versM_iff ht.2.1
theorem Done21.out (h : Done21 m a b x ys) (hm : MapOk m) (hx : MsgOk x) : Msg0 b ((applyP m.1 x.1).1, bucket (ys ++ constL m.2.1) 127 2, ()) := by
  have hv := h.valid hm hx
  refine ⟨h.map.sb, h.mti.1, h.mti.2, fieldsC_none.2 ⟨fun v hm => ⟨(hv v hm).1, (hv v hm).2.2⟩, h.ris, fun v hm => ?_⟩⟩
  have := has_range2 h.map.okB (hv v hm).1
  omega
end
theorem ris_len : ∀ {l : List Val} {lo : Int}, Ris l → (∀ v ∈ l, lo < v.1 ∧ v.1 ≤ 128) → (l.length : Int) ≤ max 0 (128 - lo)
  | [], lo, _, _ => by simp; omega
  | x :: r, lo, h, hr => by
    have h := List.pairwise_cons.1 h
    have hx := hr x List.mem_cons_self
    have := ris_len (l := r) (lo := x.1) h.2 (fun v hv => ⟨h.1 v hv, (hr v (List.mem_cons_of_mem _ hv)).2⟩)
    simp only [List.length_cons]
    omega
theorem Done21.ok {m : Map} {a b : Schema} {x : Msg} {ys : List Val} (h : Done21 m a b x ys) (hm : MapOk m) (hx : MsgOk x) : MsgOk ((applyP m.1 x.1).1, bucket (ys ++ constL m.2.1) 127 2, ()) := by
  have hv := h.valid hm hx
  refine ⟨?_, ?_, fun v hv' => (hv v hv').2.1⟩
  · have := (rightM_iff.1 h.mti.1).1
    show (applyP m.1 x.1).1.size ≤ _
    omega
  · have := ris_len (lo := 0) h.ris (fun v hv' => by have := has_range2 h.map.okB (hv v hv').1; omega)
    show (bucket (ys ++ constL m.2.1) 127 2).length ≤ _
    omega
def goodV (m : Map) (b : Schema) (v : Val) : Prop := ∃ q, findR m v.1 = some q ∧ (applyR q b v.2.1).2 = 0
theorem fieldsV_ok {m : Map} {b : Schema} : ∀ {l : List Val}, (∃ ys, fieldsV m b l = .inr ys) ↔ ∀ v ∈ l, goodV m b v
  | [] => ⟨fun _ v hv => (by cases hv), fun _ => ⟨[], rfl⟩⟩
  | v :: r => by
    rw [fieldsV]
    constructor
    · rintro ⟨ys, h⟩ w hw
      cases hf : findR m v.1 with
      | none => rw [hf] at h; cases h
      | some q =>
        rw [hf] at h
        dsimp only at h
        cases hz : decide ((applyR q b v.2.1).2 = 0) with
        | false => rw [hz] at h; cases h
        | true =>
          rw [hz, Bool.not_true, cond_false] at h
          rcases List.mem_cons.1 hw with rfl | hw
          · exact ⟨q, hf, of_decide_eq_true hz⟩
          · cases hr : fieldsV m b r with
            | inl g => rw [hr] at h; cases h
            | inr zs => exact fieldsV_ok.1 ⟨zs, hr⟩ w hw
    · intro h
      obtain ⟨q, hf, hz⟩ := h v List.mem_cons_self
      obtain ⟨zs, hr⟩ := fieldsV_ok.2 fun w hw => h w (List.mem_cons_of_mem _ hw)
      rw [hf, hr]
      dsimp only
      rw [decide_eq_true hz]
      exact ⟨_, rfl⟩
theorem fieldsV_in {m : Map} {b : Schema} : ∀ {l ys : List Val}, fieldsV m b l = .inr ys → ∀ v ∈ l, ∃ q, findR m v.1 = some q ∧ (applyR q b v.2.1).2 = 0 ∧ (applyR q b v.2.1).1 ∈ ys
  | [], ys, h, v, hv => by cases hv
  | x :: r, ys, h, v, hv => by
    rw [fieldsV] at h
    cases hf : findR m x.1 with
    | none => rw [hf] at h; cases h
    | some q =>
      rw [hf] at h
      dsimp only at h
      cases hz : decide ((applyR q b x.2.1).2 = 0) with
      | false => rw [hz] at h; cases h
      | true =>
        rw [hz, Bool.not_true, cond_false] at h
        cases hr : fieldsV m b r with
        | inl f => rw [hr] at h; cases h
        | inr zs =>
          rw [hr] at h
          cases h
          rcases List.mem_cons.1 hv with rfl | hv
          · exact ⟨q, hf, of_decide_eq_true hz, List.mem_cons_self⟩
          · obtain ⟨q', g1, g2, g3⟩ := fieldsV_in hr v hv
            exact ⟨q', g1, g2, List.mem_cons_of_mem _ g3⟩
theorem Done21.part {m : Map} {a b : Schema} {x : Msg} {ys : List Val} (h : Done21 m a b x ys) {l : List Val} (hl : List.Sublist l x.2.1) : ∃ zs, Done21 m a b (x.1, l, ()) zs := by
  obtain ⟨g1, g2, g3⟩ := h.flds
  obtain ⟨zs, hz⟩ := fieldsV_ok.2 fun v hv => fieldsV_ok.1 ⟨ys, h.vals⟩ v (hl.subset hv)
  exact ⟨zs, h.map, ⟨h.msg.sch, h.msg.right, h.msg.ver, fieldsC_none.2 ⟨fun v hv => g1 v (hl.subset hv), g2.sublist hl, fun v hv => g3 v (hl.subset hv)⟩⟩, h.head, hz⟩
def goneR (q : Rule) : Int := bif decide (q.1 = 2) then 0 else q.2.2.1
def goneF (no : Int) : List Rule → Int → Int
  | [], g => g
  | r :: l, g => goneF no l (bif decide (r.2.1 = no) then (bif !decide (r.1 = 2) then r.2.2.1 else g) else g)
theorem goneF_none {no : Int} : ∀ {l : List Rule} {g : Int}, (∀ r ∈ l, r.2.1 ≠ no) → goneF no l g = g
  | [], g, _ => rfl
  | r :: l, g, h => by
    rw [goneF, decide_eq_false (h r List.mem_cons_self), cond_false]
    exact goneF_none fun q hq => h q (List.mem_cons_of_mem _ hq)
theorem goneF_eq {no : Int} (hno : no ≠ 0) : ∀ {l : List Rule}, (l.Pairwise fun x y => twiceR x y = false) → ∀ {q : Rule}, l.find? (fun r => decide (r.2.1 = no)) = some q → goneF no l 0 = goneR q
  | [], _, q, h => by cases h
  | r :: l, hp, q, h => by
    obtain ⟨h1, h2⟩ := List.pairwise_cons.1 hp
    rw [List.find?_cons] at h
    by_cases e : r.2.1 = no
    · rw [decide_eq_true e] at h
      have hqr : r = q := Option.some.inj h
      subst hqr
      have hn : ∀ y ∈ l, y.2.1 ≠ no := fun y hy e2 => by
        have := h1 y hy
        unfold twiceR at this
        rw [Bool.or_eq_false_iff] at this
        have := this.1
        rw [decide_eq_false (by omega : ¬ r.2.1 = 0), decide_eq_true (by omega : r.2.1 = y.2.1)] at this
        cases this
      rw [goneF, decide_eq_true e, cond_true, goneF_none hn]
      unfold goneR
      cases decide (r.1 = 2) <;> rfl
    · rw [decide_eq_false e] at h
      rw [goneF, decide_eq_false e, cond_false]
      exact goneF_eq hno h2 h
theorem without_one {m : Map} {a b : Schema} {x : Msg} {ys zs : List Val} (h : Done21 m a b x ys) {v : Val} (hv : v ∈ x.2.1) (hz : Done21 m a b (x.1, dropV x.2.1 v.1, ()) zs) {q : Rule} (hq : findR m v.1 = some q) :
    bucket (zs ++ constL m.2.1) 127 2 = dropV (bucket (ys ++ constL m.2.1) 127 2) (goneR q) := by
  obtain ⟨g1, g2, g3⟩ := h.flds
  refine ris_ext hz.ris (h.ris.filter _) fun w => ?_
  rw [hz.mem, dropV_mem, h.mem]
  obtain ⟨qm, qf⟩ := findR_mem hq
  have hv2 := has_range2 h.map.okA (g1 v hv).1
  have hcross : ∀ r ∈ m.2.1, r ≠ q → r.2.2.1 ≠ 0 → r.2.2.1 ≠ goneR q := fun r hr hne h0 => by
    unfold goneR
    cases hk : decide (q.1 = 2) with
    | true => exact h0
    | false =>
      have := tos_apart (pair_mem h.map.pairs r hr q qm hne) h0
      simpa using this
  constructor
  · rintro (hw | ⟨hw, hw0⟩)
    · refine ⟨.inl hw, ?_⟩
      obtain ⟨r, hr, k, rfl⟩ := consts_mem.1 hw
      have hz := (ends_zero (ruleC_zero (h.map.rules r hr)).2.1).1 k
      exact hcross r hr (fun e => by subst e; omega) (h.map.to0 hr (by omega))
    · obtain ⟨u, hu, q', hf', h0', rfl⟩ := fieldsV_mem hz.vals w hw
      obtain ⟨hu1, hu2⟩ := dropV_mem.1 hu
      obtain ⟨b1, b2⟩ := applyR_to h0' hw0
      obtain ⟨qm', qf'⟩ := findR_mem hf'
      refine ⟨.inr ⟨?_, hw0⟩, ?_⟩
      · obtain ⟨q2, f1, f2, f3⟩ := fieldsV_in h.vals u hu1
        rw [hf'] at f1
        cases f1
        exact f3
      · rw [b2]
        exact hcross q' qm' (fun e => by subst e; omega) (h.map.to0 qm' b1)
  · rintro ⟨hw | ⟨hw, hw0⟩, hne⟩
    · exact .inl hw
    · right
      refine ⟨?_, hw0⟩
      obtain ⟨u, hu, q', hf', h0', rfl⟩ := fieldsV_mem h.vals w hw
      obtain ⟨b1, b2⟩ := applyR_to h0' hw0
      by_cases e : u.1 = v.1
      · exfalso
        rw [e, hq] at hf'
        cases hf'
        apply hne
        rw [b2]
        unfold goneR
        rw [decide_eq_false b1]; rfl
      · obtain ⟨q2, f1, f2, f3⟩ := fieldsV_in hz.vals u (dropV_mem.2 ⟨hu, e⟩)
        rw [hf'] at f1
        cases f1
        exact f3
end Groat
set_option linter.unusedVariables false
set_option linter.unusedSimpArgs false
namespace Groat
open Go Go.Ref
theorem awake21 : groatlaw21_awake = some true := by kernel_rfl
abbrev tVal : Ty := .pair (.int .i64) (.pair .str .unit)
abbrev tMsg : Ty := .pair .str (.pair (.sl 0 tVal) .unit)
theorem greatM_len {m : Map} (h : greatM m = false) : m.2.1.length ≤ 300 := by
  unfold greatM at h
  simp only [Bool.or_eq_false_iff, decide_eq_false_iff_not, Bool.not_eq_false'] at h
  omega
theorem great21_ok {m : Map} {a b : Schema} (h : Wf tMap m) : ∃ g, groatlaw21_great m [a, b] = some g ∧ (g = false → MapOk m ∧ m.2.1.length ≤ 300 ∧ a.2.2.1.length ≤ 200 ∧ b.2.2.1.length ≤ 200) := by
  unfold groatlaw21_great groatlaw21_great_s0
  rw [wf_great h, Option.bind_some]
  cases hg : greatM m with
  | true => exact ⟨true, rfl, fun h => by cases h⟩
  | false =>
    rw [cond_false, within_int (by omega) (by omega)]
    rw [show List.getD ([a, b] : List Schema) (0 : Int).toNat ((0 : Int), (0 : Int), ([] : List Spec), ()) = a from rfl, show List.getD ([a, b] : List Schema) (1 : Int).toNat ((0 : Int), (0 : Int), ([] : List Spec), ()) = b from rfl]
    by_cases h1 : (200 : Int) < (a.2.2.1.length : Int)
    · rw [decide_eq_true h1]; exact ⟨true, rfl, fun h => by cases h⟩
    · rw [decide_eq_false h1, cond_false, within_int (by omega) (by omega)]
      exact ⟨_, rfl, fun hf => ⟨greatM_ok hg, greatM_len hg, by omega, by have := of_decide_eq_false hf; omega⟩⟩
theorem fault_dec (f : Fault) : ((decide (f.1 = (0 : Int))) && ((decide (f.2.1 = (0 : Int))) && true)) = decide (f = fault0) := by
  rw [Bool.and_true, ← Bool.decide_and]
  exact decide_eq_decide.2 ⟨fun h => Prod.ext h.1 (Prod.ext h.2 rfl), fun h => by rw [h]; exact ⟨rfl, rfl⟩⟩
theorem w0 {R : Type} (x : Option R) : within 0 2 x = x := within_int (by omega) (by omega)
theorem w1 {R : Type} (x : Option R) : within 1 2 x = x := within_int (by omega) (by omega)
theorem ga (a b : Schema) : List.getD ([a, b] : List Schema) (0 : Int).toNat ((0 : Int), (0 : Int), ([] : List Spec), ()) = a := rfl
theorem gb (a b : Schema) : List.getD ([a, b] : List Schema) (1 : Int).toNat ((0 : Int), (0 : Int), ([] : List Spec), ()) = b := rfl
theorem Without16_eq (m : Msg) (no : Int) (h : m.2.1.length ≤ 1000000) : groatref16_Without m no = some (m.1, dropV m.2.1 no, ()) := by
  unfold groatref16_Without groatref16_Without_s0
  dsimp only
  have := loopJ vnil m.2.1 (by rw [maxLen_eq]; omega) (fun i (x : Val) (s : Msg × Msg) K => (bif (!(decide (x.1 = no))) then (bif (decide ((s.2.2.1.length + (List.length ([x] : List Val))) * 24 ≤ 140737488355328)) then K (s.1, (s.2.1, (s.2.2.1 ++ ([x] : List Val)), ())) else none) else K s)) (fun s => some s)
    (fun k i s => groatref16_Without_l0 k no i m s.1 s.2) (fun k i s h0 h1 => by
      show groatref16_Without_l0 (k + 1) no i m s.1 s.2 = _
      conv => lhs; unfold groatref16_Without_l0 groatref16_Without_s1
      rw [decide_eq_true h1, cond_true, within_int h0 h1, within_int h0 h1]) (fun k s => by
      show groatref16_Without_l0 (k + 1) no m.2.1.length m s.1 s.2 = _
      conv => lhs; unfold groatref16_Without_l0 groatref16_Without_s1
      rw [decide_eq_false (by omega), cond_false]) ((bs [], [], ()), (m.1, [], ()))
  rw [this, without_run no _ _ _ _ (by simp; omega)]
  rfl
theorem gone_run {ρ : Type} (v : Val) (fin : Int → Option ρ) : ∀ (l : List Rule) (i g : Int), runI (fun i (x : Rule) (t13 : Int) K => (bif (decide (x.2.1 = v.1)) then (bif (!(decide (x.1 = (2 : Int)))) then K x.2.2.1 else K t13) else K t13)) fin l i g = fin (goneF v.1 l g)
  | [], i, g => rfl
  | r :: l, i, g => by
    rw [runI, goneF]
    cases decide (r.2.1 = v.1) with
    | false => rw [cond_false, cond_false]; exact gone_run v fin l (i + 1) g
    | true =>
      rw [cond_true, cond_true]
      cases decide (r.1 = 2) with
      | false => rw [Bool.not_false, cond_true, cond_true]; exact gone_run v fin l (i + 1) _
      | true => rw [Bool.not_true, cond_false, cond_false]; exact gone_run v fin l (i + 1) g
theorem parts_run (m : Map) (a b : Schema) (x : Msg) (ys : List Val) (hm : MapOk m) (hl : m.2.1.length ≤ 300) (xo : MsgOk x) (xl : x.2.1.length ≤ 200) (la : a.2.2.1.length ≤ maxLen) (lb : b.2.2.1.length ≤ maxLen) (hd : Done21 m a b x ys) (y : Msg) (hy : y = ((applyP m.1 x.1).1, bucket (ys ++ constL m.2.1) 127 2, ())) :
    ∀ (l : List Val) (i : Int), (∀ v ∈ l, v ∈ x.2.1) →
    runI (fun i (v : Val) (s : Unit) K => ((groatref16_Without x v.1).bind fun r9 => ((xlate_Translate m a b r9).bind fun r10 => (bif (!((decide (r10.2.1 = (0 : Int))) && ((decide (r10.2.2.1 = (0 : Int))) && true))) then some (Sum.inl false) else
      ((groatref16_Without y (goneF v.1 m.2.1 0)).bind fun r11 => ((groatref16_Same r10.1 r11).bind fun r12 => (bif (!r12) then some (Sum.inl false) else K s))))))) (fun _ => some (Sum.inr ())) l i () = some (Sum.inr () : Sum Bool Unit)
  | [], i, _ => rfl
  | v :: r, i, h => by
    have hv := h v List.mem_cons_self
    obtain ⟨g1, g2, g3⟩ := hd.flds
    have hsub : List.Sublist (dropV x.2.1 v.1) x.2.1 := List.filter_sublist
    obtain ⟨zs, hz⟩ := hd.part hsub
    obtain ⟨q, f1, f2, f3⟩ := fieldsV_in hd.vals v hv
    have hv2 := has_range2 hd.map.okA (g1 v hv).1
    have hgone : goneF v.1 m.2.1 0 = goneR q := goneF_eq (by omega) hd.map.pairs f1
    have hlen := dropV_len x.2.1 v.1
    have xo2 : MsgOk (x.1, dropV x.2.1 v.1, ()) := ⟨xo.mti, Nat.le_trans hlen xo.len, fun w hw => xo.txt w (hsub.subset hw)⟩
    have hyo : MsgOk y := by rw [hy]; exact hd.ok hm xo
    rw [runI, Without16_eq x v.1 (by omega), some_bind, Translate_eq m a b _ hm (by omega) xo2 (by show (dropV x.2.1 v.1).length ≤ _; omega) la lb, some_bind, fault_dec, hz.eq, decide_eq_true rfl, Bool.not_true, cond_false, hgone,
      Without16_eq y _ hyo.len, some_bind]
    have e : (((applyP m.1 x.1).1, bucket (zs ++ constL m.2.1) 127 2, ()) : Msg) = (y.1, dropV y.2.1 (goneR q), ()) := by
      rw [hy]
      show _ = ((applyP m.1 x.1).1, dropV (bucket (ys ++ constL m.2.1) 127 2) (goneR q), ())
      rw [without_one hd hv hz f1]
    have hsm := Same16_eq ((applyP m.1 x.1).1, bucket (zs ++ constL m.2.1) 127 2, ()) (y.1, dropV y.2.1 (goneR q), ()) (by
      have := (hz.ok hm xo2).len
      rw [maxLen_eq]
      exact Nat.le_trans this (by omega))
    rw [decide_eq_true e] at hsm
    show (groatref16_Same ((applyP m.1 x.1).1, bucket (zs ++ constL m.2.1) 127 2, ()) (y.1, dropV y.2.1 (goneR q), ())).bind _ = _
    rw [hsm, some_bind, Bool.not_true, cond_false]
    exact parts_run m a b x ys hm hl xo xl la lb hd y hy r (i + 1) (fun w hw => h w (List.mem_cons_of_mem _ hw))
theorem pure_XlateParts (m : Map) (s : List Schema) (x : Msg) (hm : Wf tMap m) (hs : Wf (.arr 2 tSchema) s) (hx : Wf tMsg x) : groatlaw21_XlateParts m s x = some true := by
  obtain ⟨a, b, rfl⟩ := two_of hs.1
  unfold groatlaw21_XlateParts groatlaw21_XlateParts_s0
  rw [awake21, some_bind, Bool.not_true, cond_false]
  obtain ⟨g, hg, hok⟩ := great21_ok (a := a) (b := b) hm
  rw [hg, some_bind]
  cases g with
  | true => rfl
  | false =>
    obtain ⟨h, hl, ha, hb⟩ := hok rfl
    rw [cond_false, Great16_eq x hx.2.1.1, some_bind]
    cases hgx : greatV x with
    | true => rfl
    | false =>
      obtain ⟨xo, xl, _⟩ := greatV_ok hgx
      have la : a.2.2.1.length ≤ maxLen := by rw [maxLen_eq]; omega
      have lb : b.2.2.1.length ≤ maxLen := by rw [maxLen_eq]; omega
      rw [cond_false]
      cases decide ((x.2.1.length : Int) = 0) with
      | true => rfl
      | false =>
        rw [cond_false]
        simp only [w0, w1, ga, gb]
        rw [Translate_eq m a b x h (by omega) xo (by omega) la lb, some_bind, fault_dec]
        rcases trans_cases m a b x with ⟨f, hf, e⟩ | ⟨ys, hd, e⟩
        · rw [e, decide_eq_false (fun e2 => hf (by rw [show f = fault0 from e2]))]; rfl
        · rw [e, decide_eq_true rfl, Bool.not_true, cond_false]
          dsimp only
          generalize hy : (((applyP m.1 x.1).1, bucket (ys ++ constL m.2.1) 127 2, ()) : Msg) = y
          have key := loopI vnil x.2.1 (by rw [maxLen_eq]; omega) (fun i (v : Val) (s : Unit) K => ((groatref16_Without x v.1).bind fun r9 => ((xlate_Translate m a b r9).bind fun r10 => (bif (!((decide (r10.2.1 = (0 : Int))) && ((decide (r10.2.2.1 = (0 : Int))) && true))) then some (Sum.inl false) else
              ((groatref16_Without y (goneF v.1 m.2.1 0)).bind fun r11 => ((groatref16_Same r10.1 r11).bind fun r12 => (bif (!r12) then some (Sum.inl false) else K s))))))) (fun _ => some (Sum.inr ()))
            (fun k i s => groatlaw21_XlateParts_l0 k x.2.1 (x.2.1.length : Int) i m [a, b] x y) (fun k i s => by
              show groatlaw21_XlateParts_l0 (k + 1) x.2.1 (x.2.1.length : Int) i m [a, b] x y = _
              conv => lhs; unfold groatlaw21_XlateParts_l0 groatlaw21_XlateParts_s1
              simp only [w0, w1, ga, gb]
              congr 2
              congr 1
              funext r9
              congr 1
              funext r10
              congr 1
              have := loopI rule0 m.2.1 (by rw [maxLen_eq]; omega) (fun i' (x_1 : Rule) (t13 : Int) K => (bif (decide (x_1.2.1 = (List.getD x.2.1 i.toNat vnil).1)) then (bif (!(decide (x_1.1 = (2 : Int)))) then K x_1.2.2.1 else K t13) else K t13)) (fun t13 => some (t13, x.2.1, (x.2.1.length : Int), i, m, ([a, b] : List Schema), x, y, r10.1))
                (fun k i' t13 => groatlaw21_XlateParts_l1 k t13 x.2.1 (x.2.1.length : Int) i m.2.1 (m.2.1.length : Int) i' m [a, b] x y (List.getD x.2.1 i.toNat vnil) r10.1) (fun k i' t13 => rfl) 0
              rw [this, gone_run, some_bind]
              rfl) ()
          rw [key, parts_run m a b x ys h hl xo xl la lb hd y hy.symm x.2.1 0 (fun v hv => hv)]
          rfl
end Groat
set_option linter.unusedVariables false
set_option linter.unusedSimpArgs false
set_option maxRecDepth 100000
namespace Go.Proofs.YtmbobepkfagkgaaDoor
open Go Go.Ref Groat
abbrev U_ : List Go.Ref.SV := [.undef]
abbrev N_ : Option Go.Ref.Box := none
abbrev y0 : Go.Ref.Ty := (.pair (.sl 51 (.pair .str (.pair .str .unit))) .unit)
abbrev y1 : Go.Ref.Ty := (.pair (.sl 45 (.pair (.int .i64) (.pair .str .unit))) .unit)
abbrev y2 : Go.Ref.Ty := (.pair (.int .i64) (.pair (.int .i64) (.pair (.int .i64) .unit)))
abbrev y3 : Go.Ref.Ty := (.pair .str y0)
abbrev y4 : Go.Ref.Ty := (.pair .str y1)
abbrev y5 : Go.Ref.Ty := (.pair (.int .i64) y2)
abbrev y6 : Go.Ref.Ty := (.pair (.int .i64) y3)
abbrev y7 : Go.Ref.Ty := (.pair (.int .i64) y5)
abbrev y8 : Go.Ref.Ty := (.pair (.int .i64) y6)
abbrev y9 : Go.Ref.Ty := (.pair (.int .i64) y8)
abbrev y10 : Go.Ref.Ty := (.pair (.sl 67 y7) .unit)
abbrev y11 : Go.Ref.Ty := (.pair (.int .i64) y10)
abbrev y12 : Go.Ref.Ty := (.pair (.sl 48 y9) .unit)
abbrev y13 : Go.Ref.Ty := (.pair (.int .i64) y11)
abbrev y14 : Go.Ref.Ty := (.pair (.sl 51 (.pair .str (.pair .str .unit))) y12)
def tys : List (Option Ty) := [none, none, some (.int .i64), some (.int .i64), some .bool, some (.int .u8), some (.int .u8), some (.pair (.int .i64) (.pair (.int .i64) (.pair .bool (.pair (.int .u8) .unit)))), some (.pair (.int .i64) (.pair (.int .i64) (.pair .bool (.pair (.int .u8) .unit)))), some .str, some .str, some .str, some (.int .u64), none, none, none, none, none, none, none, none, some (.int .i32), some (.sl 51 (.pair .str (.pair .str .unit))), some (.sl 48 y9), some y14, some y14, some (.sl 67 y7), some y13, some y13, some (.arr 2 y13), some (.sl 45 (.pair (.int .i64) (.pair .str .unit))), some y4, some y4, none, none, none, some (.int .i64), some (.pair (.int .i64) (.pair (.int .i64) .unit)), some (.pair (.int .i64) (.pair (.int .i64) .unit)), none, none, none, none, none, some (.pair (.int .i64) (.pair .str .unit)), some (.pair (.int .i64) (.pair .str .unit)), none, some y9, some y9, none, some (.pair .str (.pair .str .unit)), some (.pair .str (.pair .str .unit)), none, none, none, none, none, none, none, none, none, none, none, none, none, none, some y7, some y7, none, none, none, some (.sl 73 (.sl 3 (.int .i64))), none, some (.sl 3 (.int .i64)), some (.sl 28 y13), none, none, some (.int .u64), some (.pair (.int .u64) (.pair (.int .u64) .unit)), some (.pair (.int .u64) (.pair (.int .u64) .unit)), none, none, none, none, none, none, none, none, none, none, none, some (.sl 109 (.pair (.int .i64) (.pair .str .unit))), none, none, none, none, none, none, none, none, none, none, none, none, none, none, none, none, some (.pair (.int .i64) (.pair .str .unit)), some (.pair (.int .i64) (.pair .str .unit)), none, none, some (.int .u64), none, none, none, none, some (.sl 5 (.int .u8)), none, none, none, none, none, none, none, none, none, none, some (.arr 256 .bool), some (.arr 256 .bool), none, none, none, none, some (.int .u32), none, none, none, none, none, none, none, none, none, none, none, none, none, some (.arr 256 (.int .u8)), some (.pair (.int .u8) (.pair (.int .u8) .unit)), some (.pair (.int .u8) (.pair (.int .u8) .unit)), some (.arr 16 (.pair (.int .u8) (.pair (.int .u8) .unit))), none, none, none, none, none, none, none, none, some (.int .u8), some (.int .u8), none, some (.int .i32), some (.int .i32), none, none]
def bts : List Nat := [0, 8, 8, 8, 1, 1, 1, 24, 24, 16, 16, 16, 8, 24, 24, 8, 8, 8, 8, 8, 16, 4, 24, 24, 48, 48, 24, 40, 40, 80, 24, 40, 40, 8, 8, 8, 8, 16, 16, 0, 8, 8, 8, 8, 24, 24, 8, 64, 64, 8, 32, 32, 0, 8, 8, 0, 8, 8, 0, 8, 0, 8, 0, 8, 0, 8, 40, 40, 0, 8, 8, 24, 8, 24, 24, 8, 8, 8, 16, 16, 8, 8, 8, 8, 8, 8, 8, 8, 8, 8, 8, 24, 0, 8, 0, 8, 8, 8, 8, 8, 8, 8, 8, 8, 8, 8, 0, 8, 24, 24, 8, 8, 8, 0, 8, 8, 8, 24, 32, 32, 8, 16, 16, 0, 8, 8, 8, 8, 256, 256, 0, 8, 8, 8, 4, 0, 8, 0, 8, 8, 8, 0, 8, 8, 8, 8, 8, 8, 256, 2, 2, 32, 8, 8, 8, 40, 40, 0, 0, 0, 1, 1, 8, 4, 4, 48, 48]
def pts : List Bool := [false, false, false, false, false, false, false, false, false, false, false, false, false, false, false, true, true, true, false, false, false, false, false, false, false, false, false, false, false, false, false, false, false, false, false, false, false, false, false, false, false, false, false, false, false, false, false, false, false, false, false, false, false, false, false, false, false, false, false, false, false, false, false, false, false, false, false, false, false, false, false, false, false, false, false, false, false, false, false, false, false, false, false, false, false, false, false, false, false, false, false, false, false, false, false, false, false, false, false, false, false, false, false, false, false, false, false, false, false, false, false, false, false, false, false, false, true, false, false, false, false, false, false, false, false, false, false, false, false, false, false, false, false, true, false, false, false, false, false, true, false, false, false, false, false, false, false, false, false, false, false, false, false, false, false, false, false, false, false, false, false, false, false, false, false, false, false]
def mps : List (TypeId × TypeId × TypeId) := [(75, 9, 4), (105, 3, 4)]
def tab : Tab := ⟨tys, bts, pts, mps⟩
theorem tab_ok : tab.ok Tryd.prog = true := by kernel_rfl
theorem mixed : Tryd.prog.follows .mixedOrders = true := by kernel_rfl
def Tb0 : Funs := Funs.none
theorem Tb0_nat : Tb0.Nat := none_nat
theorem Tb0_owes : ∀ f, Owes Tryd.prog Tb0 f := none_owes
noncomputable abbrev groatref14_both_c : Code := Tryd.f23.body.getD .skip
def groatref14_both_E : Env := tab.env (fun _ => []) (fun _ => []) [] []
theorem groatref14_both_t (R : Type) (kk : Nat)  (K : List SV → Option Box → Option R) : evFn groatref14_both_E (Tb0 R) kk Tryd.f23 groatref14_both_c [] none K =
  groatref14_both_s0 (fun a0 => K [.dat (.sl 73 (.sl 3 (.int .i64))) a0 [[]]] none) := by kernel_rfl
theorem groatref14_both_eq (R : Type)  (K : List SV → Option Box → Option R) : evFn groatref14_both_E (Tb0 R) FUEL Tryd.f23 groatref14_both_c [] none K = (groatref14_both).bind fun r => K [.dat (.sl 73 (.sl 3 (.int .i64))) r [[]]] none := by
  rw [groatref14_both_t]
  simp only [groatref14_both, groatref14_both_s0_bind, cond_bind, within_bind, none_bind, some_bind, sum_bind, bind_bind, Sum.elim_inl, Sum.elim_inr]
def groatref14_both_g : Pure := fun R l b K => noBox b (args0 l ((groatref14_both).bind fun r => K [.dat (.sl 73 (.sl 3 (.int .i64))) r [[]]] none))
theorem groatref14_both_n : groatref14_both_g.Nat := fun R S l b F G K h => noBox_nat (args0_nat (bindr_nat fun _ => h _ _))
def Tb1 : Funs := Tb0.add 23 [] groatref14_both_g
theorem Tb1_nat : Tb1.Nat := add_nat Tb0_nat groatref14_both_n
theorem Tb1_owes : ∀ f, Owes Tryd.prog Tb1 f := add_owes (E := groatref14_both_E) (Tab.env_ok tab_ok _ _ _ _) mixed Tb0_nat Tb0_owes (fn := Tryd.f23) (code := groatref14_both_c) Tryd.func23 (by kernel_rfl) (by kernel_rfl) fun l b r b' h => by
  obtain ⟨rfl, h⟩ := noBox_some h
  obtain ⟨h1, h2⟩ := own0 (E := groatref14_both_E) rfl h
  exact ⟨FUEL, (h2 _ _ _ _ _ _).trans ((groatref14_both_eq _  _).trans h1)⟩
noncomputable abbrev groatref14_Schema_c : Code := Tryd.f12.body.getD .skip
def groatref14_Schema_E : Env := tab.env (fun i => bif Nat.beq i 4 then [0, 2, 3, 4, 5] else []) (fun i => bif Nat.beq i 4 then [2, 3] else []) [2] [(.int .i64)]
def groatref14_Schema_h0 (which_0 : Int) (t4 : Zt2) (t5 : Int) (bt2 : Zt16) (bt3 : Zt16) : State := ⟨[[.dat (.int .i64) which_0 []], U_, [.ptr 3 y13 []], [.ptr 4 y13 []], [.dat (.sl 73 (.sl 3 (.int .i64))) t4 [[]]], [.dat (.int .i64) t5 []], U_, U_, U_, U_, U_, U_, U_, U_, U_, U_, U_, U_, U_, U_, U_, U_, U_, U_, U_, U_, U_, U_, U_, U_, U_, U_, U_, U_, U_, U_, U_, U_, U_, U_, U_, U_, U_, U_, U_, U_, U_, U_, U_, U_, U_, U_, U_, U_, U_, U_, U_, U_], [N_, N_, N_, some ⟨y13, bt2, [[2]]⟩, some ⟨y13, bt3, [[2]]⟩, N_, N_, N_, N_, N_, N_, N_, N_, N_, N_, N_, N_, N_, N_, N_, N_, N_, N_, N_, N_, N_, N_, N_, N_, N_, N_, N_, N_, N_, N_, N_, N_, N_, N_, N_, N_, N_, N_, N_, N_, N_, N_, N_, N_, N_, N_, N_, N_, N_, N_, N_, N_, N_, N_]⟩
def groatref14_Schema_x0_0 (bt2 : Zt16) (bt3 : Zt16) : State := ⟨[U_, U_, [.ptr 3 y13 []], [.ptr 4 y13 []], U_, U_, U_, U_, U_, U_, U_, U_, U_, U_, U_, U_, U_, U_, U_, U_, U_, U_, U_, U_, U_, U_, U_, U_, U_, U_, U_, U_, U_, U_, U_, U_, U_, U_, U_, U_, U_, U_, U_, U_, U_, U_, U_, U_, U_, U_, U_, U_, U_, U_, U_, U_, U_, U_], [N_, N_, N_, some ⟨y13, bt2, [[2]]⟩, some ⟨y13, bt3, [[2]]⟩, N_, N_, N_, N_, N_, N_, N_, N_, N_, N_, N_, N_, N_, N_, N_, N_, N_, N_, N_, N_, N_, N_, N_, N_, N_, N_, N_, N_, N_, N_, N_, N_, N_, N_, N_, N_, N_, N_, N_, N_, N_, N_, N_, N_, N_, N_, N_, N_, N_, N_, N_, N_, N_, N_]⟩
theorem groatref14_Schema_t (R : Type) (kk : Nat) (which_0 : Int) (K : List SV → Option Box → Option R) : evFn groatref14_Schema_E (Tb1 R) kk Tryd.f12 groatref14_Schema_c [.dat (.int .i64) which_0 []] none K =
  groatref14_Schema_s0 which_0 (fun a0 a1 a2 a3 a4 => loopR (ev groatref14_Schema_E (Tb1 R) kk (sub [1, 1, 1, 0, 1, 0, 0] groatref14_Schema_c)) [0, 2, 3, 4, 5] [2, 3] kk (groatref14_Schema_h0 a0 a1 a2 a3 a4) (kBlock 0 (kSeq groatref14_Schema_E (Tb1 R) kk (sub [1, 1, 1, 1] groatref14_Schema_c) (kFin groatref14_Schema_E Tryd.f12.results.toList none K)))) := by kernel_rfl
theorem groatref14_Schema_d0 (R : Type) (kk k : Nat) (which_0 : Int) (t4 : Zt2) (t5 : Int) (bt2 : Zt16) (bt3 : Zt16) (K : Ex → State → Option R) : loopR (ev groatref14_Schema_E (Tb1 R) kk (sub [1, 1, 1, 0, 1, 0, 0] groatref14_Schema_c)) [0, 2, 3, 4, 5] [2, 3] (k + 1) (groatref14_Schema_h0 which_0 t4 t5 bt2 bt3) K =
  groatref14_Schema_s1 which_0 t4 t5 bt2 bt3 (fun a0 a1 a2 a3 a4 => loopR (ev groatref14_Schema_E (Tb1 R) kk (sub [1, 1, 1, 0, 1, 0, 0] groatref14_Schema_c)) [0, 2, 3, 4, 5] [2, 3] k (groatref14_Schema_h0 a0 a1 a2 a3 a4) K) (fun a0 a1 => K (.exit 0) (groatref14_Schema_x0_0 a0 a1)) := by kernel_rfl
theorem groatref14_Schema_y0_0 (R : Type) (kk : Nat) (bt2 : Zt16) (bt3 : Zt16) (K : List SV → Option Box → Option R) : (kBlock 0 (kSeq groatref14_Schema_E (Tb1 R) kk (sub [1, 1, 1, 1] groatref14_Schema_c) (kFin groatref14_Schema_E Tryd.f12.results.toList none K))) (.exit 0) (groatref14_Schema_x0_0 bt2 bt3) =
  groatref14_Schema_s2 bt2 bt3 (fun a0 => K [.dat y13 a0 [[2]]] none) := by kernel_rfl
theorem groatref14_Schema_lp0 (R : Type) (k : Nat) (which_0 : Int) (t4 : Zt2) (t5 : Int) (bt2 : Zt16) (bt3 : Zt16) (K : Ex → State → Option R) : loopR (ev groatref14_Schema_E (Tb1 R) FUEL (sub [1, 1, 1, 0, 1, 0, 0] groatref14_Schema_c)) [0, 2, 3, 4, 5] [2, 3] k (groatref14_Schema_h0 which_0 t4 t5 bt2 bt3) K = (groatref14_Schema_l0 k which_0 t4 t5 bt2 bt3).bind fun e => K (.exit 0) (groatref14_Schema_x0_0 e.1 e.2) := by
  induction k generalizing which_0 t4 t5 bt2 bt3 with
  | zero => rfl
  | succ k ih =>
    rw [groatref14_Schema_d0]
    simp only [groatref14_Schema_l0, groatref14_Schema_s0_bind, groatref14_Schema_s1_bind, groatref14_Schema_s2_bind, ih, cond_bind, within_bind, none_bind, some_bind, sum_bind, bind_bind, Sum.elim_inl, Sum.elim_inr]
theorem groatref14_Schema_eq (R : Type) (which_0 : Int) (K : List SV → Option Box → Option R) : evFn groatref14_Schema_E (Tb1 R) FUEL Tryd.f12 groatref14_Schema_c [.dat (.int .i64) which_0 []] none K = (groatref14_Schema which_0).bind fun r => K [.dat y13 r [[2]]] none := by
  rw [groatref14_Schema_t]
  simp only [groatref14_Schema, groatref14_Schema_s0_bind, groatref14_Schema_s1_bind, groatref14_Schema_s2_bind, groatref14_Schema_lp0, groatref14_Schema_y0_0, cond_bind, within_bind, none_bind, some_bind, sum_bind, bind_bind, Sum.elim_inl, Sum.elim_inr]
def groatref14_Schema_g : Pure := fun R l b K => noBox b (args1 (.int .i64) l (fun x0 => (groatref14_Schema x0).bind fun r => K [.dat y13 r [[2]]] none))
theorem groatref14_Schema_n : groatref14_Schema_g.Nat := fun R S l b F G K h => noBox_nat (args1_nat fun _ => bindr_nat fun _ => h _ _)
def Tb2 : Funs := Tb1.add 12 [(.int .i64)] groatref14_Schema_g
theorem Tb2_nat : Tb2.Nat := add_nat Tb1_nat groatref14_Schema_n
theorem Tb2_owes : ∀ f, Owes Tryd.prog Tb2 f := add_owes (E := groatref14_Schema_E) (Tab.env_ok tab_ok _ _ _ _) mixed Tb1_nat Tb1_owes (fn := Tryd.f12) (code := groatref14_Schema_c) Tryd.func12 (by kernel_rfl) (by kernel_rfl) fun l b r b' h => by
  obtain ⟨rfl, h⟩ := noBox_some h
  obtain ⟨x0, h1, h2⟩ := own1 (E := groatref14_Schema_E) rfl h
  exact ⟨FUEL, (h2 _ _ _ _ _ _).trans ((groatref14_Schema_eq _ x0 _).trans h1)⟩
noncomputable abbrev class_sets_c : Code := Tryd.f50.body.getD .skip
def class_sets_E : Env := tab.env (fun _ => []) (fun _ => []) [] [(.int .i64)]
theorem class_sets_t (R : Type) (kk : Nat) (class_0 : Int) (K : List SV → Option Box → Option R) : evFn class_sets_E (Tb2 R) kk Tryd.f50 class_sets_c [.dat (.int .i64) class_0 []] none K =
  class_sets_s0 class_0 (fun a0 => K [.dat (.int .i64) a0 []] none) := by kernel_rfl
theorem class_sets_eq (R : Type) (class_0 : Int) (K : List SV → Option Box → Option R) : evFn class_sets_E (Tb2 R) FUEL Tryd.f50 class_sets_c [.dat (.int .i64) class_0 []] none K = (class_sets class_0).bind fun r => K [.dat (.int .i64) r []] none := by
  rw [class_sets_t]
  simp only [class_sets, class_sets_s0_bind, cond_bind, within_bind, none_bind, some_bind, sum_bind, bind_bind, Sum.elim_inl, Sum.elim_inr]
def class_sets_g : Pure := fun R l b K => noBox b (args1 (.int .i64) l (fun x0 => (class_sets x0).bind fun r => K [.dat (.int .i64) r []] none))
theorem class_sets_n : class_sets_g.Nat := fun R S l b F G K h => noBox_nat (args1_nat fun _ => bindr_nat fun _ => h _ _)
def Tb3 : Funs := Tb2.add 50 [(.int .i64)] class_sets_g
theorem Tb3_nat : Tb3.Nat := add_nat Tb2_nat class_sets_n
theorem Tb3_owes : ∀ f, Owes Tryd.prog Tb3 f := add_owes (E := class_sets_E) (Tab.env_ok tab_ok _ _ _ _) mixed Tb2_nat Tb2_owes (fn := Tryd.f50) (code := class_sets_c) Tryd.func50 (by kernel_rfl) (by kernel_rfl) fun l b r b' h => by
  obtain ⟨rfl, h⟩ := noBox_some h
  obtain ⟨x0, h1, h2⟩ := own1 (E := class_sets_E) rfl h
  exact ⟨FUEL, (h2 _ _ _ _ _ _).trans ((class_sets_eq _ x0 _).trans h1)⟩
noncomputable abbrev class_Known_c : Code := Tryd.f48.body.getD .skip
def class_Known_E : Env := tab.env (fun _ => []) (fun _ => []) [] [(.int .i64)]
theorem class_Known_t (R : Type) (kk : Nat) (class_0 : Int) (K : List SV → Option Box → Option R) : evFn class_Known_E (Tb3 R) kk Tryd.f48 class_Known_c [.dat (.int .i64) class_0 []] none K =
  class_Known_s0 class_0 (fun a0 => K [.dat .bool a0 []] none) := by kernel_rfl
theorem class_Known_eq (R : Type) (class_0 : Int) (K : List SV → Option Box → Option R) : evFn class_Known_E (Tb3 R) FUEL Tryd.f48 class_Known_c [.dat (.int .i64) class_0 []] none K = (class_Known class_0).bind fun r => K [.dat .bool r []] none := by
  rw [class_Known_t]
  simp only [class_Known, class_Known_s0_bind, cond_bind, within_bind, none_bind, some_bind, sum_bind, bind_bind, Sum.elim_inl, Sum.elim_inr]
def class_Known_g : Pure := fun R l b K => noBox b (args1 (.int .i64) l (fun x0 => (class_Known x0).bind fun r => K [.dat .bool r []] none))
theorem class_Known_n : class_Known_g.Nat := fun R S l b F G K h => noBox_nat (args1_nat fun _ => bindr_nat fun _ => h _ _)
def Tb4 : Funs := Tb3.add 48 [(.int .i64)] class_Known_g
theorem Tb4_nat : Tb4.Nat := add_nat Tb3_nat class_Known_n
theorem Tb4_owes : ∀ f, Owes Tryd.prog Tb4 f := add_owes (E := class_Known_E) (Tab.env_ok tab_ok _ _ _ _) mixed Tb3_nat Tb3_owes (fn := Tryd.f48) (code := class_Known_c) Tryd.func48 (by kernel_rfl) (by kernel_rfl) fun l b r b' h => by
  obtain ⟨rfl, h⟩ := noBox_some h
  obtain ⟨x0, h1, h2⟩ := own1 (E := class_Known_E) rfl h
  exact ⟨FUEL, (h2 _ _ _ _ _ _).trans ((class_Known_eq _ x0 _).trans h1)⟩
noncomputable abbrev prefix_width_c : Code := Tryd.f70.body.getD .skip
def prefix_width_E : Env := tab.env (fun _ => []) (fun _ => []) [] [(.int .i64)]
theorem prefix_width_t (R : Type) (kk : Nat) (form_0 : Int) (K : List SV → Option Box → Option R) : evFn prefix_width_E (Tb4 R) kk Tryd.f70 prefix_width_c [.dat (.int .i64) form_0 []] none K =
  prefix_width_s0 form_0 (fun a0 => K [.dat (.int .i64) a0 []] none) := by kernel_rfl
theorem prefix_width_eq (R : Type) (form_0 : Int) (K : List SV → Option Box → Option R) : evFn prefix_width_E (Tb4 R) FUEL Tryd.f70 prefix_width_c [.dat (.int .i64) form_0 []] none K = (prefix_width form_0).bind fun r => K [.dat (.int .i64) r []] none := by
  rw [prefix_width_t]
  simp only [prefix_width, prefix_width_s0_bind, cond_bind, within_bind, none_bind, some_bind, sum_bind, bind_bind, Sum.elim_inl, Sum.elim_inr]
def prefix_width_g : Pure := fun R l b K => noBox b (args1 (.int .i64) l (fun x0 => (prefix_width x0).bind fun r => K [.dat (.int .i64) r []] none))
theorem prefix_width_n : prefix_width_g.Nat := fun R S l b F G K h => noBox_nat (args1_nat fun _ => bindr_nat fun _ => h _ _)
def Tb5 : Funs := Tb4.add 70 [(.int .i64)] prefix_width_g
theorem Tb5_nat : Tb5.Nat := add_nat Tb4_nat prefix_width_n
theorem Tb5_owes : ∀ f, Owes Tryd.prog Tb5 f := add_owes (E := prefix_width_E) (Tab.env_ok tab_ok _ _ _ _) mixed Tb4_nat Tb4_owes (fn := Tryd.f70) (code := prefix_width_c) Tryd.func70 (by kernel_rfl) (by kernel_rfl) fun l b r b' h => by
  obtain ⟨rfl, h⟩ := noBox_some h
  obtain ⟨x0, h1, h2⟩ := own1 (E := prefix_width_E) rfl h
  exact ⟨FUEL, (h2 _ _ _ _ _ _).trans ((prefix_width_eq _ x0 _).trans h1)⟩
noncomputable abbrev prefix_Most_c : Code := Tryd.f49.body.getD .skip
def prefix_Most_E : Env := tab.env (fun i => bif Nat.beq i 3 then [3, 5, 6] else []) (fun i => bif Nat.beq i 3 then [3] else []) [] [(.int .i64)]
def prefix_Most_h0 (t3 : Int) (t5 : Int) (t6 : Int) : State := ⟨[U_, U_, U_, [.dat (.int .i64) t3 []], U_, [.dat (.int .i64) t5 []], [.dat (.int .i64) t6 []], U_, U_, U_, U_, U_, U_], [N_, N_, N_, N_, N_, N_, N_, N_, N_, N_, N_, N_, N_, N_]⟩
def prefix_Most_x0_0 (t3 : Int) : State := ⟨[U_, U_, U_, [.dat (.int .i64) t3 []], U_, U_, U_, U_, U_, U_, U_, U_, U_], [N_, N_, N_, N_, N_, N_, N_, N_, N_, N_, N_, N_, N_, N_]⟩
theorem prefix_Most_t (R : Type) (kk : Nat) (form_0 : Int) (K : List SV → Option Box → Option R) : evFn prefix_Most_E (Tb5 R) kk Tryd.f49 prefix_Most_c [.dat (.int .i64) form_0 []] none K =
  prefix_Most_s0 form_0 (fun a0 a1 a2 => loopR (ev prefix_Most_E (Tb5 R) kk (sub [1, 1, 0, 1, 0, 0] prefix_Most_c)) [3, 5, 6] [3] kk (prefix_Most_h0 a0 a1 a2) (kBlock 0 (kSeq prefix_Most_E (Tb5 R) kk (sub [1, 1, 1] prefix_Most_c) (kFin prefix_Most_E Tryd.f49.results.toList none K)))) := by kernel_rfl
theorem prefix_Most_d0 (R : Type) (kk k : Nat) (t3 : Int) (t5 : Int) (t6 : Int) (K : Ex → State → Option R) : loopR (ev prefix_Most_E (Tb5 R) kk (sub [1, 1, 0, 1, 0, 0] prefix_Most_c)) [3, 5, 6] [3] (k + 1) (prefix_Most_h0 t3 t5 t6) K =
  prefix_Most_s1 t3 t5 t6 (fun a0 a1 a2 => loopR (ev prefix_Most_E (Tb5 R) kk (sub [1, 1, 0, 1, 0, 0] prefix_Most_c)) [3, 5, 6] [3] k (prefix_Most_h0 a0 a1 a2) K) (fun a0 => K (.exit 0) (prefix_Most_x0_0 a0)) := by kernel_rfl
theorem prefix_Most_y0_0 (R : Type) (kk : Nat) (t3 : Int) (K : List SV → Option Box → Option R) : (kBlock 0 (kSeq prefix_Most_E (Tb5 R) kk (sub [1, 1, 1] prefix_Most_c) (kFin prefix_Most_E Tryd.f49.results.toList none K))) (.exit 0) (prefix_Most_x0_0 t3) =
  prefix_Most_s2 t3 (fun a0 => K [.dat (.int .i64) a0 []] none) := by kernel_rfl
theorem prefix_Most_lp0 (R : Type) (k : Nat) (t3 : Int) (t5 : Int) (t6 : Int) (K : Ex → State → Option R) : loopR (ev prefix_Most_E (Tb5 R) FUEL (sub [1, 1, 0, 1, 0, 0] prefix_Most_c)) [3, 5, 6] [3] k (prefix_Most_h0 t3 t5 t6) K = (prefix_Most_l0 k t3 t5 t6).bind fun e => K (.exit 0) (prefix_Most_x0_0 e) := by
  induction k generalizing t3 t5 t6 with
  | zero => rfl
  | succ k ih =>
    rw [prefix_Most_d0]
    simp only [prefix_Most_l0, prefix_Most_s0_bind, prefix_Most_s1_bind, prefix_Most_s2_bind, ih, cond_bind, within_bind, none_bind, some_bind, sum_bind, bind_bind, Sum.elim_inl, Sum.elim_inr]
theorem prefix_Most_eq (R : Type) (form_0 : Int) (K : List SV → Option Box → Option R) : evFn prefix_Most_E (Tb5 R) FUEL Tryd.f49 prefix_Most_c [.dat (.int .i64) form_0 []] none K = (prefix_Most form_0).bind fun r => K [.dat (.int .i64) r []] none := by
  rw [prefix_Most_t]
  simp only [prefix_Most, prefix_Most_s0_bind, prefix_Most_s1_bind, prefix_Most_s2_bind, prefix_Most_lp0, prefix_Most_y0_0, cond_bind, within_bind, none_bind, some_bind, sum_bind, bind_bind, Sum.elim_inl, Sum.elim_inr]
def prefix_Most_g : Pure := fun R l b K => noBox b (args1 (.int .i64) l (fun x0 => (prefix_Most x0).bind fun r => K [.dat (.int .i64) r []] none))
theorem prefix_Most_n : prefix_Most_g.Nat := fun R S l b F G K h => noBox_nat (args1_nat fun _ => bindr_nat fun _ => h _ _)
def Tb6 : Funs := Tb5.add 49 [(.int .i64)] prefix_Most_g
theorem Tb6_nat : Tb6.Nat := add_nat Tb5_nat prefix_Most_n
theorem Tb6_owes : ∀ f, Owes Tryd.prog Tb6 f := add_owes (E := prefix_Most_E) (Tab.env_ok tab_ok _ _ _ _) mixed Tb5_nat Tb5_owes (fn := Tryd.f49) (code := prefix_Most_c) Tryd.func49 (by kernel_rfl) (by kernel_rfl) fun l b r b' h => by
  obtain ⟨rfl, h⟩ := noBox_some h
  obtain ⟨x0, h1, h2⟩ := own1 (E := prefix_Most_E) rfl h
  exact ⟨FUEL, (h2 _ _ _ _ _ _).trans ((prefix_Most_eq _ x0 _).trans h1)⟩
noncomputable abbrev spec_Check_c : Code := Tryd.f35.body.getD .skip
def spec_Check_E : Env := tab.env (fun _ => []) (fun _ => []) [] [y7]
theorem spec_Check_t (R : Type) (kk : Nat) (s_0 : Zt11) (K : List SV → Option Box → Option R) : evFn spec_Check_E (Tb6 R) kk Tryd.f35 spec_Check_c [.dat y7 s_0 []] none K =
  spec_Check_s0 s_0 (fun a0 => K [.dat (.int .i64) a0 []] none) := by kernel_rfl
theorem spec_Check_eq (R : Type) (s_0 : Zt11) (K : List SV → Option Box → Option R) : evFn spec_Check_E (Tb6 R) FUEL Tryd.f35 spec_Check_c [.dat y7 s_0 []] none K = (spec_Check s_0).bind fun r => K [.dat (.int .i64) r []] none := by
  rw [spec_Check_t]
  simp only [spec_Check, spec_Check_s0_bind, cond_bind, within_bind, none_bind, some_bind, sum_bind, bind_bind, Sum.elim_inl, Sum.elim_inr]
def spec_Check_g : Pure := fun R l b K => noBox b (args1 y7 l (fun x0 => (spec_Check x0).bind fun r => K [.dat (.int .i64) r []] none))
theorem spec_Check_n : spec_Check_g.Nat := fun R S l b F G K h => noBox_nat (args1_nat fun _ => bindr_nat fun _ => h _ _)
def Tb7 : Funs := Tb6.add 35 [y7] spec_Check_g
theorem Tb7_nat : Tb7.Nat := add_nat Tb6_nat spec_Check_n
theorem Tb7_owes : ∀ f, Owes Tryd.prog Tb7 f := add_owes (E := spec_Check_E) (Tab.env_ok tab_ok _ _ _ _) mixed Tb6_nat Tb6_owes (fn := Tryd.f35) (code := spec_Check_c) Tryd.func35 (by kernel_rfl) (by kernel_rfl) fun l b r b' h => by
  obtain ⟨rfl, h⟩ := noBox_some h
  obtain ⟨x0, h1, h2⟩ := own1 (E := spec_Check_E) rfl h
  exact ⟨FUEL, (h2 _ _ _ _ _ _).trans ((spec_Check_eq _ x0 _).trans h1)⟩
noncomputable abbrev schema_Check_c : Code := Tryd.f19.body.getD .skip
def schema_Check_E : Env := tab.env (fun i => bif Nat.beq i 6 then [1, 26, 27, 28] else []) (fun i => bif Nat.beq i 6 then [2, 3] else []) [] [y13]
def schema_Check_h0 (t26 : Zt13) (t27 : Int) (t28 : Int) (bt1 : Zt16) : State := ⟨[U_, [.ptr 2 y13 []], U_, U_, U_, U_, U_, U_, U_, U_, U_, U_, U_, U_, U_, U_, U_, U_, U_, U_, U_, U_, U_, U_, U_, U_, [.dat (.sl 67 y7) t26 []], [.dat (.int .i64) t27 []], [.dat (.int .i64) t28 []], U_, U_, U_, U_, U_, U_, U_, U_, U_, U_, U_, U_, U_, U_, U_, U_, U_, U_, U_, U_, U_, U_, U_, U_, U_, U_], [N_, N_, some ⟨y13, bt1, []⟩, N_, N_, N_, N_, N_, N_, N_, N_, N_, N_, N_, N_, N_, N_, N_, N_, N_, N_, N_, N_, N_, N_, N_, N_, N_, N_, N_, N_, N_, N_, N_, N_, N_, N_, N_, N_, N_, N_, N_, N_, N_, N_, N_, N_, N_, N_, N_, N_, N_, N_, N_, N_, N_]⟩
def schema_Check_x0_0 (t2 : Int) (t3 : Int) : State := ⟨[U_, U_, [.dat (.int .i64) t2 []], [.dat (.int .i64) t3 []], U_, U_, U_, U_, U_, U_, U_, U_, U_, U_, U_, U_, U_, U_, U_, U_, U_, U_, U_, U_, U_, U_, U_, U_, U_, U_, U_, U_, U_, U_, U_, U_, U_, U_, U_, U_, U_, U_, U_, U_, U_, U_, U_, U_, U_, U_, U_, U_, U_, U_, U_], [N_, N_, N_, N_, N_, N_, N_, N_, N_, N_, N_, N_, N_, N_, N_, N_, N_, N_, N_, N_, N_, N_, N_, N_, N_, N_, N_, N_, N_, N_, N_, N_, N_, N_, N_, N_, N_, N_, N_, N_, N_, N_, N_, N_, N_, N_, N_, N_, N_, N_, N_, N_, N_, N_, N_, N_]⟩
def schema_Check_x0_1  : State := ⟨[U_, U_, U_, U_, U_, U_, U_, U_, U_, U_, U_, U_, U_, U_, U_, U_, U_, U_, U_, U_, U_, U_, U_, U_, U_, U_, U_, U_, U_, U_, U_, U_, U_, U_, U_, U_, U_, U_, U_, U_, U_, U_, U_, U_, U_, U_, U_, U_, U_, U_, U_, U_, U_, U_, U_], [N_, N_, N_, N_, N_, N_, N_, N_, N_, N_, N_, N_, N_, N_, N_, N_, N_, N_, N_, N_, N_, N_, N_, N_, N_, N_, N_, N_, N_, N_, N_, N_, N_, N_, N_, N_, N_, N_, N_, N_, N_, N_, N_, N_, N_, N_, N_, N_, N_, N_, N_, N_, N_, N_, N_, N_]⟩
theorem schema_Check_t (R : Type) (kk : Nat) (s_0 : Zt16) (K : List SV → Option Box → Option R) : evFn schema_Check_E (Tb7 R) kk Tryd.f19 schema_Check_c [.dat y13 s_0 []] none K =
  schema_Check_s0 s_0 (fun a0 a1 => K [.dat (.int .i64) a0 [], .dat (.int .i64) a1 []] none) (fun a0 a1 a2 a3 => loopR (ev schema_Check_E (Tb7 R) kk (sub [1, 1, 0, 1, 0, 0] schema_Check_c)) [1, 26, 27, 28] [2, 3] kk (schema_Check_h0 a0 a1 a2 a3) (kBlock 1 (kSeq schema_Check_E (Tb7 R) kk (sub [1, 1, 1] schema_Check_c) (kFin schema_Check_E Tryd.f19.results.toList none K)))) := by kernel_rfl
theorem schema_Check_d0 (R : Type) (kk k : Nat) (t26 : Zt13) (t27 : Int) (t28 : Int) (bt1 : Zt16) (K : Ex → State → Option R) : loopR (ev schema_Check_E (Tb7 R) kk (sub [1, 1, 0, 1, 0, 0] schema_Check_c)) [1, 26, 27, 28] [2, 3] (k + 1) (schema_Check_h0 t26 t27 t28 bt1) K =
  schema_Check_s1 t26 t27 t28 bt1 (fun a0 a1 => K .ret (schema_Check_x0_0 a0 a1)) (fun a0 a1 a2 a3 => loopR (ev schema_Check_E (Tb7 R) kk (sub [1, 1, 0, 1, 0, 0] schema_Check_c)) [1, 26, 27, 28] [2, 3] k (schema_Check_h0 a0 a1 a2 a3) K) (K (.exit 1) (schema_Check_x0_1)) := by kernel_rfl
theorem schema_Check_y0_0 (R : Type) (kk : Nat) (t2 : Int) (t3 : Int) (K : List SV → Option Box → Option R) : (kBlock 1 (kSeq schema_Check_E (Tb7 R) kk (sub [1, 1, 1] schema_Check_c) (kFin schema_Check_E Tryd.f19.results.toList none K))) .ret (schema_Check_x0_0 t2 t3) =
  schema_Check_s2 t2 t3 (fun a0 a1 => K [.dat (.int .i64) a0 [], .dat (.int .i64) a1 []] none) := by kernel_rfl
theorem schema_Check_y0_1 (R : Type) (kk : Nat)  (K : List SV → Option Box → Option R) : (kBlock 1 (kSeq schema_Check_E (Tb7 R) kk (sub [1, 1, 1] schema_Check_c) (kFin schema_Check_E Tryd.f19.results.toList none K))) (.exit 1) (schema_Check_x0_1) =
  schema_Check_s3 (fun a0 a1 => K [.dat (.int .i64) a0 [], .dat (.int .i64) a1 []] none) := by kernel_rfl
theorem schema_Check_lp0 (R : Type) (k : Nat) (t26 : Zt13) (t27 : Int) (t28 : Int) (bt1 : Zt16) (K : Ex → State → Option R) : loopR (ev schema_Check_E (Tb7 R) FUEL (sub [1, 1, 0, 1, 0, 0] schema_Check_c)) [1, 26, 27, 28] [2, 3] k (schema_Check_h0 t26 t27 t28 bt1) K = (schema_Check_l0 k t26 t27 t28 bt1).bind fun e => (Sum.elim (fun (we : (Int × Int)) => K .ret (schema_Check_x0_0 we.1 we.2)) (fun (we : Unit) => K (.exit 1) (schema_Check_x0_1)) e) := by
  induction k generalizing t26 t27 t28 bt1 with
  | zero => rfl
  | succ k ih =>
    rw [schema_Check_d0]
    simp only [schema_Check_l0, schema_Check_s0_bind, schema_Check_s1_bind, schema_Check_s2_bind, schema_Check_s3_bind, ih, cond_bind, within_bind, none_bind, some_bind, sum_bind, bind_bind, Sum.elim_inl, Sum.elim_inr]
theorem schema_Check_eq (R : Type) (s_0 : Zt16) (K : List SV → Option Box → Option R) : evFn schema_Check_E (Tb7 R) FUEL Tryd.f19 schema_Check_c [.dat y13 s_0 []] none K = (schema_Check s_0).bind fun r => K [.dat (.int .i64) r.1 [], .dat (.int .i64) r.2 []] none := by
  rw [schema_Check_t]
  simp only [schema_Check, schema_Check_s0_bind, schema_Check_s1_bind, schema_Check_s2_bind, schema_Check_s3_bind, schema_Check_lp0, schema_Check_y0_0, schema_Check_y0_1, cond_bind, within_bind, none_bind, some_bind, sum_bind, bind_bind, Sum.elim_inl, Sum.elim_inr]
def schema_Check_g : Pure := fun R l b K => noBox b (args1 y13 l (fun x0 => (schema_Check x0).bind fun r => K [.dat (.int .i64) r.1 [], .dat (.int .i64) r.2 []] none))
theorem schema_Check_n : schema_Check_g.Nat := fun R S l b F G K h => noBox_nat (args1_nat fun _ => bindr_nat fun _ => h _ _)
def Tb8 : Funs := Tb7.add 19 [y13] schema_Check_g
theorem Tb8_nat : Tb8.Nat := add_nat Tb7_nat schema_Check_n
theorem Tb8_owes : ∀ f, Owes Tryd.prog Tb8 f := add_owes (E := schema_Check_E) (Tab.env_ok tab_ok _ _ _ _) mixed Tb7_nat Tb7_owes (fn := Tryd.f19) (code := schema_Check_c) Tryd.func19 (by kernel_rfl) (by kernel_rfl) fun l b r b' h => by
  obtain ⟨rfl, h⟩ := noBox_some h
  obtain ⟨x0, h1, h2⟩ := own1 (E := schema_Check_E) rfl h
  exact ⟨FUEL, (h2 _ _ _ _ _ _).trans ((schema_Check_eq _ x0 _).trans h1)⟩
noncomputable abbrev digits_All_c : Code := Tryd.f45.body.getD .skip
def digits_All_E : Env := tab.env (fun i => bif Nat.beq i 2 then [6] else []) (fun i => bif Nat.beq i 2 then [2] else []) [] [.str]
def digits_All_h0 (bt6 : Zt1) : State := ⟨[U_, U_, U_, U_, U_, U_, [.ptr 7 (.spc .iter .unit .unit) []], U_, U_, U_, U_, U_, U_, U_, U_, U_], [N_, N_, N_, N_, N_, N_, N_, some ⟨(.spc .iter .unit .unit), bt6, []⟩, N_, N_, N_, N_, N_, N_, N_, N_, N_]⟩
def digits_All_x0_0 (t2 : Bool) : State := ⟨[U_, U_, [.dat .bool t2 []], U_, U_, U_, U_, U_, U_, U_, U_, U_, U_, U_, U_, U_], [N_, N_, N_, N_, N_, N_, N_, N_, N_, N_, N_, N_, N_, N_, N_, N_, N_]⟩
def digits_All_x0_1  : State := ⟨[U_, U_, U_, U_, U_, U_, U_, U_, U_, U_, U_, U_, U_, U_, U_, U_], [N_, N_, N_, N_, N_, N_, N_, N_, N_, N_, N_, N_, N_, N_, N_, N_, N_]⟩
theorem digits_All_t (R : Type) (kk : Nat) (s_0 : ByteArray) (K : List SV → Option Box → Option R) : evFn digits_All_E (Tb8 R) kk Tryd.f45 digits_All_c [.dat .str s_0 []] none K =
  digits_All_s0 s_0 (fun a0 => loopR (ev digits_All_E (Tb8 R) kk (sub [1, 0, 1, 0, 0] digits_All_c)) [6] [2] kk (digits_All_h0 a0) (kBlock 0 (kSeq digits_All_E (Tb8 R) kk (sub [1, 1] digits_All_c) (kFin digits_All_E Tryd.f45.results.toList none K)))) := by kernel_rfl
theorem digits_All_d0 (R : Type) (kk k : Nat) (bt6 : Zt1) (K : Ex → State → Option R) : loopR (ev digits_All_E (Tb8 R) kk (sub [1, 0, 1, 0, 0] digits_All_c)) [6] [2] (k + 1) (digits_All_h0 bt6) K =
  digits_All_s1 bt6 (fun a0 => K .ret (digits_All_x0_0 a0)) (fun a0 => loopR (ev digits_All_E (Tb8 R) kk (sub [1, 0, 1, 0, 0] digits_All_c)) [6] [2] k (digits_All_h0 a0) K) (K (.exit 0) (digits_All_x0_1)) := by kernel_rfl
theorem digits_All_y0_0 (R : Type) (kk : Nat) (t2 : Bool) (K : List SV → Option Box → Option R) : (kBlock 0 (kSeq digits_All_E (Tb8 R) kk (sub [1, 1] digits_All_c) (kFin digits_All_E Tryd.f45.results.toList none K))) .ret (digits_All_x0_0 t2) =
  digits_All_s2 t2 (fun a0 => K [.dat .bool a0 []] none) := by kernel_rfl
theorem digits_All_y0_1 (R : Type) (kk : Nat)  (K : List SV → Option Box → Option R) : (kBlock 0 (kSeq digits_All_E (Tb8 R) kk (sub [1, 1] digits_All_c) (kFin digits_All_E Tryd.f45.results.toList none K))) (.exit 0) (digits_All_x0_1) =
  digits_All_s3 (fun a0 => K [.dat .bool a0 []] none) := by kernel_rfl
theorem digits_All_lp0 (R : Type) (k : Nat) (bt6 : Zt1) (K : Ex → State → Option R) : loopR (ev digits_All_E (Tb8 R) FUEL (sub [1, 0, 1, 0, 0] digits_All_c)) [6] [2] k (digits_All_h0 bt6) K = (digits_All_l0 k bt6).bind fun e => (Sum.elim (fun (we : Bool) => K .ret (digits_All_x0_0 we)) (fun (we : Unit) => K (.exit 0) (digits_All_x0_1)) e) := by
  induction k generalizing bt6 with
  | zero => rfl
  | succ k ih =>
    rw [digits_All_d0]
    simp only [digits_All_l0, digits_All_s0_bind, digits_All_s1_bind, digits_All_s2_bind, digits_All_s3_bind, ih, cond_bind, within_bind, none_bind, some_bind, sum_bind, bind_bind, Sum.elim_inl, Sum.elim_inr]
theorem digits_All_eq (R : Type) (s_0 : ByteArray) (K : List SV → Option Box → Option R) : evFn digits_All_E (Tb8 R) FUEL Tryd.f45 digits_All_c [.dat .str s_0 []] none K = (digits_All s_0).bind fun r => K [.dat .bool r []] none := by
  rw [digits_All_t]
  simp only [digits_All, digits_All_s0_bind, digits_All_s1_bind, digits_All_s2_bind, digits_All_s3_bind, digits_All_lp0, digits_All_y0_0, digits_All_y0_1, cond_bind, within_bind, none_bind, some_bind, sum_bind, bind_bind, Sum.elim_inl, Sum.elim_inr]
def digits_All_g : Pure := fun R l b K => noBox b (args1 .str l (fun x0 => (digits_All x0).bind fun r => K [.dat .bool r []] none))
theorem digits_All_n : digits_All_g.Nat := fun R S l b F G K h => noBox_nat (args1_nat fun _ => bindr_nat fun _ => h _ _)
def Tb9 : Funs := Tb8.add 45 [.str] digits_All_g
theorem Tb9_nat : Tb9.Nat := add_nat Tb8_nat digits_All_n
theorem Tb9_owes : ∀ f, Owes Tryd.prog Tb9 f := add_owes (E := digits_All_E) (Tab.env_ok tab_ok _ _ _ _) mixed Tb8_nat Tb8_owes (fn := Tryd.f45) (code := digits_All_c) Tryd.func45 (by kernel_rfl) (by kernel_rfl) fun l b r b' h => by
  obtain ⟨rfl, h⟩ := noBox_some h
  obtain ⟨x0, h1, h2⟩ := own1 (E := digits_All_E) rfl h
  exact ⟨FUEL, (h2 _ _ _ _ _ _).trans ((digits_All_eq _ x0 _).trans h1)⟩
noncomputable abbrev mti_Right_c : Code := Tryd.f36.body.getD .skip
def mti_Right_E : Env := tab.env (fun _ => []) (fun _ => []) [] [.str]
theorem mti_Right_t (R : Type) (kk : Nat) (m_0 : ByteArray) (K : List SV → Option Box → Option R) : evFn mti_Right_E (Tb9 R) kk Tryd.f36 mti_Right_c [.dat .str m_0 []] none K =
  mti_Right_s0 m_0 (fun a0 => K [.dat .bool a0 []] none) := by kernel_rfl
theorem mti_Right_eq (R : Type) (m_0 : ByteArray) (K : List SV → Option Box → Option R) : evFn mti_Right_E (Tb9 R) FUEL Tryd.f36 mti_Right_c [.dat .str m_0 []] none K = (mti_Right m_0).bind fun r => K [.dat .bool r []] none := by
  rw [mti_Right_t]
  simp only [mti_Right, mti_Right_s0_bind, cond_bind, within_bind, none_bind, some_bind, sum_bind, bind_bind, Sum.elim_inl, Sum.elim_inr]
def mti_Right_g : Pure := fun R l b K => noBox b (args1 .str l (fun x0 => (mti_Right x0).bind fun r => K [.dat .bool r []] none))
theorem mti_Right_n : mti_Right_g.Nat := fun R S l b F G K h => noBox_nat (args1_nat fun _ => bindr_nat fun _ => h _ _)
def Tb10 : Funs := Tb9.add 36 [.str] mti_Right_g
theorem Tb10_nat : Tb10.Nat := add_nat Tb9_nat mti_Right_n
theorem Tb10_owes : ∀ f, Owes Tryd.prog Tb10 f := add_owes (E := mti_Right_E) (Tab.env_ok tab_ok _ _ _ _) mixed Tb9_nat Tb9_owes (fn := Tryd.f36) (code := mti_Right_c) Tryd.func36 (by kernel_rfl) (by kernel_rfl) fun l b r b' h => by
  obtain ⟨rfl, h⟩ := noBox_some h
  obtain ⟨x0, h1, h2⟩ := own1 (E := mti_Right_E) rfl h
  exact ⟨FUEL, (h2 _ _ _ _ _ _).trans ((mti_Right_eq _ x0 _).trans h1)⟩
noncomputable abbrev mti_Version_c : Code := Tryd.f20.body.getD .skip
def mti_Version_E : Env := tab.env (fun _ => []) (fun _ => []) [] [.str]
theorem mti_Version_t (R : Type) (kk : Nat) (m_0 : ByteArray) (K : List SV → Option Box → Option R) : evFn mti_Version_E (Tb10 R) kk Tryd.f20 mti_Version_c [.dat .str m_0 []] none K =
  mti_Version_s0 m_0 (fun a0 a1 => K [.dat (.int .i64) a0 [], .dat .bool a1 []] none) := by kernel_rfl
theorem mti_Version_eq (R : Type) (m_0 : ByteArray) (K : List SV → Option Box → Option R) : evFn mti_Version_E (Tb10 R) FUEL Tryd.f20 mti_Version_c [.dat .str m_0 []] none K = (mti_Version m_0).bind fun r => K [.dat (.int .i64) r.1 [], .dat .bool r.2 []] none := by
  rw [mti_Version_t]
  simp only [mti_Version, mti_Version_s0_bind, cond_bind, within_bind, none_bind, some_bind, sum_bind, bind_bind, Sum.elim_inl, Sum.elim_inr]
def mti_Version_g : Pure := fun R l b K => noBox b (args1 .str l (fun x0 => (mti_Version x0).bind fun r => K [.dat (.int .i64) r.1 [], .dat .bool r.2 []] none))
theorem mti_Version_n : mti_Version_g.Nat := fun R S l b F G K h => noBox_nat (args1_nat fun _ => bindr_nat fun _ => h _ _)
def Tb11 : Funs := Tb10.add 20 [.str] mti_Version_g
theorem Tb11_nat : Tb11.Nat := add_nat Tb10_nat mti_Version_n
theorem Tb11_owes : ∀ f, Owes Tryd.prog Tb11 f := add_owes (E := mti_Version_E) (Tab.env_ok tab_ok _ _ _ _) mixed Tb10_nat Tb10_owes (fn := Tryd.f20) (code := mti_Version_c) Tryd.func20 (by kernel_rfl) (by kernel_rfl) fun l b r b' h => by
  obtain ⟨rfl, h⟩ := noBox_some h
  obtain ⟨x0, h1, h2⟩ := own1 (E := mti_Version_E) rfl h
  exact ⟨FUEL, (h2 _ _ _ _ _ _).trans ((mti_Version_eq _ x0 _).trans h1)⟩
noncomputable abbrev mti_Request_c : Code := Tryd.f39.body.getD .skip
def mti_Request_E : Env := tab.env (fun _ => []) (fun _ => []) [] [.str]
theorem mti_Request_t (R : Type) (kk : Nat) (m_0 : ByteArray) (K : List SV → Option Box → Option R) : evFn mti_Request_E (Tb11 R) kk Tryd.f39 mti_Request_c [.dat .str m_0 []] none K =
  mti_Request_s0 m_0 (fun a0 => K [.dat .bool a0 []] none) := by kernel_rfl
theorem mti_Request_eq (R : Type) (m_0 : ByteArray) (K : List SV → Option Box → Option R) : evFn mti_Request_E (Tb11 R) FUEL Tryd.f39 mti_Request_c [.dat .str m_0 []] none K = (mti_Request m_0).bind fun r => K [.dat .bool r []] none := by
  rw [mti_Request_t]
  simp only [mti_Request, mti_Request_s0_bind, cond_bind, within_bind, none_bind, some_bind, sum_bind, bind_bind, Sum.elim_inl, Sum.elim_inr]
def mti_Request_g : Pure := fun R l b K => noBox b (args1 .str l (fun x0 => (mti_Request x0).bind fun r => K [.dat .bool r []] none))
theorem mti_Request_n : mti_Request_g.Nat := fun R S l b F G K h => noBox_nat (args1_nat fun _ => bindr_nat fun _ => h _ _)
def Tb12 : Funs := Tb11.add 39 [.str] mti_Request_g
theorem Tb12_nat : Tb12.Nat := add_nat Tb11_nat mti_Request_n
theorem Tb12_owes : ∀ f, Owes Tryd.prog Tb12 f := add_owes (E := mti_Request_E) (Tab.env_ok tab_ok _ _ _ _) mixed Tb11_nat Tb11_owes (fn := Tryd.f39) (code := mti_Request_c) Tryd.func39 (by kernel_rfl) (by kernel_rfl) fun l b r b' h => by
  obtain ⟨rfl, h⟩ := noBox_some h
  obtain ⟨x0, h1, h2⟩ := own1 (E := mti_Request_E) rfl h
  exact ⟨FUEL, (h2 _ _ _ _ _ _).trans ((mti_Request_eq _ x0 _).trans h1)⟩
noncomputable abbrev xlate_typed_c : Code := Tryd.f24.body.getD .skip
def xlate_typed_E : Env := tab.env (fun _ => []) (fun _ => []) [] [(.pair .str (.pair .str .unit)), y13, y13]
theorem xlate_typed_t (R : Type) (kk : Nat) (p_0 : Zt8) (a_1 : Zt16) (b_2 : Zt16) (K : List SV → Option Box → Option R) : evFn xlate_typed_E (Tb12 R) kk Tryd.f24 xlate_typed_c [.dat (.pair .str (.pair .str .unit)) p_0 [], .dat y13 a_1 [], .dat y13 b_2 []] none K =
  xlate_typed_s0 p_0 a_1 b_2 (fun a0 => K [.dat .bool a0 []] none) := by kernel_rfl
theorem xlate_typed_eq (R : Type) (p_0 : Zt8) (a_1 : Zt16) (b_2 : Zt16) (K : List SV → Option Box → Option R) : evFn xlate_typed_E (Tb12 R) FUEL Tryd.f24 xlate_typed_c [.dat (.pair .str (.pair .str .unit)) p_0 [], .dat y13 a_1 [], .dat y13 b_2 []] none K = (xlate_typed p_0 a_1 b_2).bind fun r => K [.dat .bool r []] none := by
  rw [xlate_typed_t]
  simp only [xlate_typed, xlate_typed_s0_bind, cond_bind, within_bind, none_bind, some_bind, sum_bind, bind_bind, Sum.elim_inl, Sum.elim_inr]
def xlate_typed_g : Pure := fun R l b K => noBox b (args3 (.pair .str (.pair .str .unit)) y13 y13 l (fun x0 x1 x2 => (xlate_typed x0 x1 x2).bind fun r => K [.dat .bool r []] none))
theorem xlate_typed_n : xlate_typed_g.Nat := fun R S l b F G K h => noBox_nat (args3_nat fun _ _ _ => bindr_nat fun _ => h _ _)
def Tb13 : Funs := Tb12.add 24 [(.pair .str (.pair .str .unit)), y13, y13] xlate_typed_g
theorem Tb13_nat : Tb13.Nat := add_nat Tb12_nat xlate_typed_n
theorem Tb13_owes : ∀ f, Owes Tryd.prog Tb13 f := add_owes (E := xlate_typed_E) (Tab.env_ok tab_ok _ _ _ _) mixed Tb12_nat Tb12_owes (fn := Tryd.f24) (code := xlate_typed_c) Tryd.func24 (by kernel_rfl) (by kernel_rfl) fun l b r b' h => by
  obtain ⟨rfl, h⟩ := noBox_some h
  obtain ⟨x0, x1, x2, h1, h2⟩ := own3 (E := xlate_typed_E) rfl h
  exact ⟨FUEL, (h2 _ _ _ _ _ _).trans ((xlate_typed_eq _ x0 x1 x2 _).trans h1)⟩
noncomputable abbrev schema_Find_c : Code := Tryd.f21.body.getD .skip
def schema_Find_E : Env := tab.env (fun i => bif Nat.beq i 2 then [1, 4, 9, 10, 11] else []) (fun i => bif Nat.beq i 2 then [4, 5] else []) [4] [y13, (.int .i64)]
def schema_Find_h0 (no_1 : Int) (t9 : Zt13) (t10 : Int) (t11 : Int) (bt4 : Zt11) : State := ⟨[U_, [.dat (.int .i64) no_1 []], U_, U_, [.ptr 5 y7 []], U_, U_, U_, U_, [.dat (.sl 67 y7) t9 []], [.dat (.int .i64) t10 []], [.dat (.int .i64) t11 []], U_, U_, U_, U_, U_, U_, U_, U_, U_, U_], [N_, N_, N_, N_, N_, some ⟨y7, bt4, []⟩, N_, N_, N_, N_, N_, N_, N_, N_, N_, N_, N_, N_, N_, N_, N_, N_, N_]⟩
def schema_Find_x0_0 (t5 : Bool) (bt4 : Zt11) : State := ⟨[U_, U_, U_, U_, [.ptr 5 y7 []], [.dat .bool t5 []], U_, U_, U_, U_, U_, U_, U_, U_, U_, U_, U_, U_, U_, U_, U_, U_], [N_, N_, N_, N_, N_, some ⟨y7, bt4, []⟩, N_, N_, N_, N_, N_, N_, N_, N_, N_, N_, N_, N_, N_, N_, N_, N_, N_]⟩
def schema_Find_x0_1 (bt4 : Zt11) : State := ⟨[U_, U_, U_, U_, [.ptr 5 y7 []], U_, U_, U_, U_, U_, U_, U_, U_, U_, U_, U_, U_, U_, U_, U_, U_, U_], [N_, N_, N_, N_, N_, some ⟨y7, bt4, []⟩, N_, N_, N_, N_, N_, N_, N_, N_, N_, N_, N_, N_, N_, N_, N_, N_, N_]⟩
theorem schema_Find_t (R : Type) (kk : Nat) (s_0 : Zt16) (no_1 : Int) (K : List SV → Option Box → Option R) : evFn schema_Find_E (Tb13 R) kk Tryd.f21 schema_Find_c [.dat y13 s_0 [], .dat (.int .i64) no_1 []] none K =
  schema_Find_s0 s_0 no_1 (fun a0 a1 a2 a3 a4 => loopR (ev schema_Find_E (Tb13 R) kk (sub [1, 0, 1, 0, 0] schema_Find_c)) [1, 4, 9, 10, 11] [4, 5] kk (schema_Find_h0 a0 a1 a2 a3 a4) (kBlock 0 (kSeq schema_Find_E (Tb13 R) kk (sub [1, 1] schema_Find_c) (kFin schema_Find_E Tryd.f21.results.toList none K)))) := by kernel_rfl
theorem schema_Find_d0 (R : Type) (kk k : Nat) (no_1 : Int) (t9 : Zt13) (t10 : Int) (t11 : Int) (bt4 : Zt11) (K : Ex → State → Option R) : loopR (ev schema_Find_E (Tb13 R) kk (sub [1, 0, 1, 0, 0] schema_Find_c)) [1, 4, 9, 10, 11] [4, 5] (k + 1) (schema_Find_h0 no_1 t9 t10 t11 bt4) K =
  schema_Find_s1 no_1 t9 t10 t11 bt4 (fun a0 a1 => K .ret (schema_Find_x0_0 a0 a1)) (fun a0 a1 a2 a3 a4 => loopR (ev schema_Find_E (Tb13 R) kk (sub [1, 0, 1, 0, 0] schema_Find_c)) [1, 4, 9, 10, 11] [4, 5] k (schema_Find_h0 a0 a1 a2 a3 a4) K) (fun a0 => K (.exit 0) (schema_Find_x0_1 a0)) := by kernel_rfl
theorem schema_Find_y0_0 (R : Type) (kk : Nat) (t5 : Bool) (bt4 : Zt11) (K : List SV → Option Box → Option R) : (kBlock 0 (kSeq schema_Find_E (Tb13 R) kk (sub [1, 1] schema_Find_c) (kFin schema_Find_E Tryd.f21.results.toList none K))) .ret (schema_Find_x0_0 t5 bt4) =
  schema_Find_s2 t5 bt4 (fun a0 a1 => K [.dat y7 a0 [], .dat .bool a1 []] none) := by kernel_rfl
theorem schema_Find_y0_1 (R : Type) (kk : Nat) (bt4 : Zt11) (K : List SV → Option Box → Option R) : (kBlock 0 (kSeq schema_Find_E (Tb13 R) kk (sub [1, 1] schema_Find_c) (kFin schema_Find_E Tryd.f21.results.toList none K))) (.exit 0) (schema_Find_x0_1 bt4) =
  schema_Find_s3 bt4 (fun a0 a1 => K [.dat y7 a0 [], .dat .bool a1 []] none) := by kernel_rfl
theorem schema_Find_lp0 (R : Type) (k : Nat) (no_1 : Int) (t9 : Zt13) (t10 : Int) (t11 : Int) (bt4 : Zt11) (K : Ex → State → Option R) : loopR (ev schema_Find_E (Tb13 R) FUEL (sub [1, 0, 1, 0, 0] schema_Find_c)) [1, 4, 9, 10, 11] [4, 5] k (schema_Find_h0 no_1 t9 t10 t11 bt4) K = (schema_Find_l0 k no_1 t9 t10 t11 bt4).bind fun e => (Sum.elim (fun (we : (Bool × Zt11)) => K .ret (schema_Find_x0_0 we.1 we.2)) (fun (we : Zt11) => K (.exit 0) (schema_Find_x0_1 we)) e) := by
  induction k generalizing no_1 t9 t10 t11 bt4 with
  | zero => rfl
  | succ k ih =>
    rw [schema_Find_d0]
    simp only [schema_Find_l0, schema_Find_s0_bind, schema_Find_s1_bind, schema_Find_s2_bind, schema_Find_s3_bind, ih, cond_bind, within_bind, none_bind, some_bind, sum_bind, bind_bind, Sum.elim_inl, Sum.elim_inr]
theorem schema_Find_eq (R : Type) (s_0 : Zt16) (no_1 : Int) (K : List SV → Option Box → Option R) : evFn schema_Find_E (Tb13 R) FUEL Tryd.f21 schema_Find_c [.dat y13 s_0 [], .dat (.int .i64) no_1 []] none K = (schema_Find s_0 no_1).bind fun r => K [.dat y7 r.1 [], .dat .bool r.2 []] none := by
  rw [schema_Find_t]
  simp only [schema_Find, schema_Find_s0_bind, schema_Find_s1_bind, schema_Find_s2_bind, schema_Find_s3_bind, schema_Find_lp0, schema_Find_y0_0, schema_Find_y0_1, cond_bind, within_bind, none_bind, some_bind, sum_bind, bind_bind, Sum.elim_inl, Sum.elim_inr]
def schema_Find_g : Pure := fun R l b K => noBox b (args2 y13 (.int .i64) l (fun x0 x1 => (schema_Find x0 x1).bind fun r => K [.dat y7 r.1 [], .dat .bool r.2 []] none))
theorem schema_Find_n : schema_Find_g.Nat := fun R S l b F G K h => noBox_nat (args2_nat fun _ _ => bindr_nat fun _ => h _ _)
def Tb14 : Funs := Tb13.add 21 [y13, (.int .i64)] schema_Find_g
theorem Tb14_nat : Tb14.Nat := add_nat Tb13_nat schema_Find_n
theorem Tb14_owes : ∀ f, Owes Tryd.prog Tb14 f := add_owes (E := schema_Find_E) (Tab.env_ok tab_ok _ _ _ _) mixed Tb13_nat Tb13_owes (fn := Tryd.f21) (code := schema_Find_c) Tryd.func21 (by kernel_rfl) (by kernel_rfl) fun l b r b' h => by
  obtain ⟨rfl, h⟩ := noBox_some h
  obtain ⟨x0, x1, h1, h2⟩ := own2 (E := schema_Find_E) rfl h
  exact ⟨FUEL, (h2 _ _ _ _ _ _).trans ((schema_Find_eq _ x0 x1 _).trans h1)⟩
noncomputable abbrev rule_ends_c : Code := Tryd.f40.body.getD .skip
def rule_ends_E : Env := tab.env (fun _ => []) (fun _ => []) [6, 7] [y9, y13, y13]
theorem rule_ends_t (R : Type) (kk : Nat) (r_0 : Zt18) (a_1 : Zt16) (b_2 : Zt16) (K : List SV → Option Box → Option R) : evFn rule_ends_E (Tb14 R) kk Tryd.f40 rule_ends_c [.dat y9 r_0 [], .dat y13 a_1 [], .dat y13 b_2 []] none K =
  rule_ends_s0 r_0 a_1 b_2 (fun a0 a1 a2 => K [.dat y7 a0 [], .dat y7 a1 [], .dat (.int .i64) a2 []] none) := by kernel_rfl
theorem rule_ends_eq (R : Type) (r_0 : Zt18) (a_1 : Zt16) (b_2 : Zt16) (K : List SV → Option Box → Option R) : evFn rule_ends_E (Tb14 R) FUEL Tryd.f40 rule_ends_c [.dat y9 r_0 [], .dat y13 a_1 [], .dat y13 b_2 []] none K = (rule_ends r_0 a_1 b_2).bind fun r => K [.dat y7 r.1 [], .dat y7 r.2.1 [], .dat (.int .i64) r.2.2 []] none := by
  rw [rule_ends_t]
  simp only [rule_ends, rule_ends_s0_bind, cond_bind, within_bind, none_bind, some_bind, sum_bind, bind_bind, Sum.elim_inl, Sum.elim_inr]
def rule_ends_g : Pure := fun R l b K => noBox b (args3 y9 y13 y13 l (fun x0 x1 x2 => (rule_ends x0 x1 x2).bind fun r => K [.dat y7 r.1 [], .dat y7 r.2.1 [], .dat (.int .i64) r.2.2 []] none))
theorem rule_ends_n : rule_ends_g.Nat := fun R S l b F G K h => noBox_nat (args3_nat fun _ _ _ => bindr_nat fun _ => h _ _)
def Tb15 : Funs := Tb14.add 40 [y9, y13, y13] rule_ends_g
theorem Tb15_nat : Tb15.Nat := add_nat Tb14_nat rule_ends_n
theorem Tb15_owes : ∀ f, Owes Tryd.prog Tb15 f := add_owes (E := rule_ends_E) (Tab.env_ok tab_ok _ _ _ _) mixed Tb14_nat Tb14_owes (fn := Tryd.f40) (code := rule_ends_c) Tryd.func40 (by kernel_rfl) (by kernel_rfl) fun l b r b' h => by
  obtain ⟨rfl, h⟩ := noBox_some h
  obtain ⟨x0, x1, x2, h1, h2⟩ := own3 (E := rule_ends_E) rfl h
  exact ⟨FUEL, (h2 _ _ _ _ _ _).trans ((rule_ends_eq _ x0 x1 x2 _).trans h1)⟩
noncomputable abbrev class_Wider_c : Code := Tryd.f74.body.getD .skip
def class_Wider_E : Env := tab.env (fun _ => []) (fun _ => []) [] [(.int .i64), (.int .i64)]
theorem class_Wider_t (R : Type) (kk : Nat) (a_0 : Int) (b_1 : Int) (K : List SV → Option Box → Option R) : evFn class_Wider_E (Tb15 R) kk Tryd.f74 class_Wider_c [.dat (.int .i64) a_0 [], .dat (.int .i64) b_1 []] none K =
  class_Wider_s0 a_0 b_1 (fun a0 => K [.dat .bool a0 []] none) := by kernel_rfl
theorem class_Wider_eq (R : Type) (a_0 : Int) (b_1 : Int) (K : List SV → Option Box → Option R) : evFn class_Wider_E (Tb15 R) FUEL Tryd.f74 class_Wider_c [.dat (.int .i64) a_0 [], .dat (.int .i64) b_1 []] none K = (class_Wider a_0 b_1).bind fun r => K [.dat .bool r []] none := by
  rw [class_Wider_t]
  simp only [class_Wider, class_Wider_s0_bind, cond_bind, within_bind, none_bind, some_bind, sum_bind, bind_bind, Sum.elim_inl, Sum.elim_inr]
def class_Wider_g : Pure := fun R l b K => noBox b (args2 (.int .i64) (.int .i64) l (fun x0 x1 => (class_Wider x0 x1).bind fun r => K [.dat .bool r []] none))
theorem class_Wider_n : class_Wider_g.Nat := fun R S l b F G K h => noBox_nat (args2_nat fun _ _ => bindr_nat fun _ => h _ _)
def Tb16 : Funs := Tb15.add 74 [(.int .i64), (.int .i64)] class_Wider_g
theorem Tb16_nat : Tb16.Nat := add_nat Tb15_nat class_Wider_n
theorem Tb16_owes : ∀ f, Owes Tryd.prog Tb16 f := add_owes (E := class_Wider_E) (Tab.env_ok tab_ok _ _ _ _) mixed Tb15_nat Tb15_owes (fn := Tryd.f74) (code := class_Wider_c) Tryd.func74 (by kernel_rfl) (by kernel_rfl) fun l b r b' h => by
  obtain ⟨rfl, h⟩ := noBox_some h
  obtain ⟨x0, x1, h1, h2⟩ := own2 (E := class_Wider_E) rfl h
  exact ⟨FUEL, (h2 _ _ _ _ _ _).trans ((class_Wider_eq _ x0 x1 _).trans h1)⟩
noncomputable abbrev spec_classes_c : Code := Tryd.f54.body.getD .skip
def spec_classes_E : Env := tab.env (fun _ => []) (fun _ => []) [] [(.int .i64), (.int .i64)]
theorem spec_classes_t (R : Type) (kk : Nat) (a_0 : Int) (b_1 : Int) (K : List SV → Option Box → Option R) : evFn spec_classes_E (Tb16 R) kk Tryd.f54 spec_classes_c [.dat (.int .i64) a_0 [], .dat (.int .i64) b_1 []] none K =
  spec_classes_s0 a_0 b_1 (fun a0 => K [.dat .bool a0 []] none) := by kernel_rfl
theorem spec_classes_eq (R : Type) (a_0 : Int) (b_1 : Int) (K : List SV → Option Box → Option R) : evFn spec_classes_E (Tb16 R) FUEL Tryd.f54 spec_classes_c [.dat (.int .i64) a_0 [], .dat (.int .i64) b_1 []] none K = (spec_classes a_0 b_1).bind fun r => K [.dat .bool r []] none := by
  rw [spec_classes_t]
  simp only [spec_classes, spec_classes_s0_bind, cond_bind, within_bind, none_bind, some_bind, sum_bind, bind_bind, Sum.elim_inl, Sum.elim_inr]
def spec_classes_g : Pure := fun R l b K => noBox b (args2 (.int .i64) (.int .i64) l (fun x0 x1 => (spec_classes x0 x1).bind fun r => K [.dat .bool r []] none))
theorem spec_classes_n : spec_classes_g.Nat := fun R S l b F G K h => noBox_nat (args2_nat fun _ _ => bindr_nat fun _ => h _ _)
def Tb17 : Funs := Tb16.add 54 [(.int .i64), (.int .i64)] spec_classes_g
theorem Tb17_nat : Tb17.Nat := add_nat Tb16_nat spec_classes_n
theorem Tb17_owes : ∀ f, Owes Tryd.prog Tb17 f := add_owes (E := spec_classes_E) (Tab.env_ok tab_ok _ _ _ _) mixed Tb16_nat Tb16_owes (fn := Tryd.f54) (code := spec_classes_c) Tryd.func54 (by kernel_rfl) (by kernel_rfl) fun l b r b' h => by
  obtain ⟨rfl, h⟩ := noBox_some h
  obtain ⟨x0, x1, h1, h2⟩ := own2 (E := spec_classes_E) rfl h
  exact ⟨FUEL, (h2 _ _ _ _ _ _).trans ((spec_classes_eq _ x0 x1 _).trans h1)⟩
noncomputable abbrev spec_Wider_c : Code := Tryd.f41.body.getD .skip
def spec_Wider_E : Env := tab.env (fun _ => []) (fun _ => []) [] [y7, y7]
theorem spec_Wider_t (R : Type) (kk : Nat) (a_0 : Zt11) (b_1 : Zt11) (K : List SV → Option Box → Option R) : evFn spec_Wider_E (Tb17 R) kk Tryd.f41 spec_Wider_c [.dat y7 a_0 [], .dat y7 b_1 []] none K =
  spec_Wider_s0 a_0 b_1 (fun a0 => K [.dat .bool a0 []] none) := by kernel_rfl
theorem spec_Wider_eq (R : Type) (a_0 : Zt11) (b_1 : Zt11) (K : List SV → Option Box → Option R) : evFn spec_Wider_E (Tb17 R) FUEL Tryd.f41 spec_Wider_c [.dat y7 a_0 [], .dat y7 b_1 []] none K = (spec_Wider a_0 b_1).bind fun r => K [.dat .bool r []] none := by
  rw [spec_Wider_t]
  simp only [spec_Wider, spec_Wider_s0_bind, cond_bind, within_bind, none_bind, some_bind, sum_bind, bind_bind, Sum.elim_inl, Sum.elim_inr]
def spec_Wider_g : Pure := fun R l b K => noBox b (args2 y7 y7 l (fun x0 x1 => (spec_Wider x0 x1).bind fun r => K [.dat .bool r []] none))
theorem spec_Wider_n : spec_Wider_g.Nat := fun R S l b F G K h => noBox_nat (args2_nat fun _ _ => bindr_nat fun _ => h _ _)
def Tb18 : Funs := Tb17.add 41 [y7, y7] spec_Wider_g
theorem Tb18_nat : Tb18.Nat := add_nat Tb17_nat spec_Wider_n
theorem Tb18_owes : ∀ f, Owes Tryd.prog Tb18 f := add_owes (E := spec_Wider_E) (Tab.env_ok tab_ok _ _ _ _) mixed Tb17_nat Tb17_owes (fn := Tryd.f41) (code := spec_Wider_c) Tryd.func41 (by kernel_rfl) (by kernel_rfl) fun l b r b' h => by
  obtain ⟨rfl, h⟩ := noBox_some h
  obtain ⟨x0, x1, h1, h2⟩ := own2 (E := spec_Wider_E) rfl h
  exact ⟨FUEL, (h2 _ _ _ _ _ _).trans ((spec_Wider_eq _ x0 x1 _).trans h1)⟩
noncomputable abbrev class_of_c : Code := Tryd.f51.body.getD .skip
def class_of_E : Env := tab.env (fun _ => []) (fun _ => []) [] [(.int .u8)]
theorem class_of_t (R : Type) (kk : Nat) (b_0 : Int) (K : List SV → Option Box → Option R) : evFn class_of_E (Tb18 R) kk Tryd.f51 class_of_c [.dat (.int .u8) b_0 []] none K =
  class_of_s0 b_0 (fun a0 => K [.dat (.int .i64) a0 []] none) := by kernel_rfl
theorem class_of_eq (R : Type) (b_0 : Int) (K : List SV → Option Box → Option R) : evFn class_of_E (Tb18 R) FUEL Tryd.f51 class_of_c [.dat (.int .u8) b_0 []] none K = (class_of b_0).bind fun r => K [.dat (.int .i64) r []] none := by
  rw [class_of_t]
  simp only [class_of, class_of_s0_bind, cond_bind, within_bind, none_bind, some_bind, sum_bind, bind_bind, Sum.elim_inl, Sum.elim_inr]
def class_of_g : Pure := fun R l b K => noBox b (args1 (.int .u8) l (fun x0 => (class_of x0).bind fun r => K [.dat (.int .i64) r []] none))
theorem class_of_n : class_of_g.Nat := fun R S l b F G K h => noBox_nat (args1_nat fun _ => bindr_nat fun _ => h _ _)
def Tb19 : Funs := Tb18.add 51 [(.int .u8)] class_of_g
theorem Tb19_nat : Tb19.Nat := add_nat Tb18_nat class_of_n
theorem Tb19_owes : ∀ f, Owes Tryd.prog Tb19 f := add_owes (E := class_of_E) (Tab.env_ok tab_ok _ _ _ _) mixed Tb18_nat Tb18_owes (fn := Tryd.f51) (code := class_of_c) Tryd.func51 (by kernel_rfl) (by kernel_rfl) fun l b r b' h => by
  obtain ⟨rfl, h⟩ := noBox_some h
  obtain ⟨x0, h1, h2⟩ := own1 (E := class_of_E) rfl h
  exact ⟨FUEL, (h2 _ _ _ _ _ _).trans ((class_of_eq _ x0 _).trans h1)⟩
noncomputable abbrev class_First_c : Code := Tryd.f37.body.getD .skip
def class_First_E : Env := tab.env (fun i => bif Nat.beq i 3 then [1, 5, 6] else []) (fun i => bif Nat.beq i 3 then [4] else []) [] [(.int .i64), .str]
def class_First_h0 (s_1 : ByteArray) (t5 : Int) (t6 : Int) : State := ⟨[U_, [.dat .str s_1 []], U_, U_, U_, [.dat (.int .i64) t5 []], [.dat (.int .i64) t6 []], U_, U_, U_, U_, U_, U_, U_, U_, U_, U_, U_, U_, U_, U_, U_, U_], [N_, N_, N_, N_, N_, N_, N_, N_, N_, N_, N_, N_, N_, N_, N_, N_, N_, N_, N_, N_, N_, N_, N_, N_]⟩
def class_First_x0_0 (t4 : Int) : State := ⟨[U_, U_, U_, U_, [.dat (.int .i64) t4 []], U_, U_, U_, U_, U_, U_, U_, U_, U_, U_, U_, U_, U_, U_, U_, U_, U_, U_], [N_, N_, N_, N_, N_, N_, N_, N_, N_, N_, N_, N_, N_, N_, N_, N_, N_, N_, N_, N_, N_, N_, N_, N_]⟩
def class_First_x0_1  : State := ⟨[U_, U_, U_, U_, U_, U_, U_, U_, U_, U_, U_, U_, U_, U_, U_, U_, U_, U_, U_, U_, U_, U_, U_], [N_, N_, N_, N_, N_, N_, N_, N_, N_, N_, N_, N_, N_, N_, N_, N_, N_, N_, N_, N_, N_, N_, N_, N_]⟩
theorem class_First_t (R : Type) (kk : Nat) (class_0 : Int) (s_1 : ByteArray) (K : List SV → Option Box → Option R) : evFn class_First_E (Tb19 R) kk Tryd.f37 class_First_c [.dat (.int .i64) class_0 [], .dat .str s_1 []] none K =
  class_First_s0 class_0 s_1 (fun a0 a1 a2 => loopR (ev class_First_E (Tb19 R) kk (sub [1, 1, 0, 1, 0, 0] class_First_c)) [1, 5, 6] [4] kk (class_First_h0 a0 a1 a2) (kBlock 0 (kSeq class_First_E (Tb19 R) kk (sub [1, 1, 1] class_First_c) (kFin class_First_E Tryd.f37.results.toList none K)))) := by kernel_rfl
theorem class_First_d0 (R : Type) (kk k : Nat) (s_1 : ByteArray) (t5 : Int) (t6 : Int) (K : Ex → State → Option R) : loopR (ev class_First_E (Tb19 R) kk (sub [1, 1, 0, 1, 0, 0] class_First_c)) [1, 5, 6] [4] (k + 1) (class_First_h0 s_1 t5 t6) K =
  class_First_s1 s_1 t5 t6 (fun a0 => K .ret (class_First_x0_0 a0)) (fun a0 a1 a2 => loopR (ev class_First_E (Tb19 R) kk (sub [1, 1, 0, 1, 0, 0] class_First_c)) [1, 5, 6] [4] k (class_First_h0 a0 a1 a2) K) (K (.exit 0) (class_First_x0_1)) := by kernel_rfl
theorem class_First_y0_0 (R : Type) (kk : Nat) (t4 : Int) (K : List SV → Option Box → Option R) : (kBlock 0 (kSeq class_First_E (Tb19 R) kk (sub [1, 1, 1] class_First_c) (kFin class_First_E Tryd.f37.results.toList none K))) .ret (class_First_x0_0 t4) =
  class_First_s2 t4 (fun a0 => K [.dat (.int .i64) a0 []] none) := by kernel_rfl
theorem class_First_y0_1 (R : Type) (kk : Nat)  (K : List SV → Option Box → Option R) : (kBlock 0 (kSeq class_First_E (Tb19 R) kk (sub [1, 1, 1] class_First_c) (kFin class_First_E Tryd.f37.results.toList none K))) (.exit 0) (class_First_x0_1) =
  class_First_s3 (fun a0 => K [.dat (.int .i64) a0 []] none) := by kernel_rfl
theorem class_First_lp0 (R : Type) (k : Nat) (s_1 : ByteArray) (t5 : Int) (t6 : Int) (K : Ex → State → Option R) : loopR (ev class_First_E (Tb19 R) FUEL (sub [1, 1, 0, 1, 0, 0] class_First_c)) [1, 5, 6] [4] k (class_First_h0 s_1 t5 t6) K = (class_First_l0 k s_1 t5 t6).bind fun e => (Sum.elim (fun (we : Int) => K .ret (class_First_x0_0 we)) (fun (we : Unit) => K (.exit 0) (class_First_x0_1)) e) := by
  induction k generalizing s_1 t5 t6 with
  | zero => rfl
  | succ k ih =>
    rw [class_First_d0]
    simp only [class_First_l0, class_First_s0_bind, class_First_s1_bind, class_First_s2_bind, class_First_s3_bind, ih, cond_bind, within_bind, none_bind, some_bind, sum_bind, bind_bind, Sum.elim_inl, Sum.elim_inr]
theorem class_First_eq (R : Type) (class_0 : Int) (s_1 : ByteArray) (K : List SV → Option Box → Option R) : evFn class_First_E (Tb19 R) FUEL Tryd.f37 class_First_c [.dat (.int .i64) class_0 [], .dat .str s_1 []] none K = (class_First class_0 s_1).bind fun r => K [.dat (.int .i64) r []] none := by
  rw [class_First_t]
  simp only [class_First, class_First_s0_bind, class_First_s1_bind, class_First_s2_bind, class_First_s3_bind, class_First_lp0, class_First_y0_0, class_First_y0_1, cond_bind, within_bind, none_bind, some_bind, sum_bind, bind_bind, Sum.elim_inl, Sum.elim_inr]
def class_First_g : Pure := fun R l b K => noBox b (args2 (.int .i64) .str l (fun x0 x1 => (class_First x0 x1).bind fun r => K [.dat (.int .i64) r []] none))
theorem class_First_n : class_First_g.Nat := fun R S l b F G K h => noBox_nat (args2_nat fun _ _ => bindr_nat fun _ => h _ _)
def Tb20 : Funs := Tb19.add 37 [(.int .i64), .str] class_First_g
theorem Tb20_nat : Tb20.Nat := add_nat Tb19_nat class_First_n
theorem Tb20_owes : ∀ f, Owes Tryd.prog Tb20 f := add_owes (E := class_First_E) (Tab.env_ok tab_ok _ _ _ _) mixed Tb19_nat Tb19_owes (fn := Tryd.f37) (code := class_First_c) Tryd.func37 (by kernel_rfl) (by kernel_rfl) fun l b r b' h => by
  obtain ⟨rfl, h⟩ := noBox_some h
  obtain ⟨x0, x1, h1, h2⟩ := own2 (E := class_First_E) rfl h
  exact ⟨FUEL, (h2 _ _ _ _ _ _).trans ((class_First_eq _ x0 x1 _).trans h1)⟩
noncomputable abbrev tag_first_c : Code := Tryd.f71.body.getD .skip
def tag_first_E : Env := tab.env (fun _ => []) (fun _ => []) [] [(.int .i64)]
theorem tag_first_t (R : Type) (kk : Nat) (b_0 : Int) (K : List SV → Option Box → Option R) : evFn tag_first_E (Tb20 R) kk Tryd.f71 tag_first_c [.dat (.int .i64) b_0 []] none K =
  tag_first_s0 b_0 (fun a0 => K [.dat .bool a0 []] none) := by kernel_rfl
theorem tag_first_eq (R : Type) (b_0 : Int) (K : List SV → Option Box → Option R) : evFn tag_first_E (Tb20 R) FUEL Tryd.f71 tag_first_c [.dat (.int .i64) b_0 []] none K = (tag_first b_0).bind fun r => K [.dat .bool r []] none := by
  rw [tag_first_t]
  simp only [tag_first, tag_first_s0_bind, cond_bind, within_bind, none_bind, some_bind, sum_bind, bind_bind, Sum.elim_inl, Sum.elim_inr]
def tag_first_g : Pure := fun R l b K => noBox b (args1 (.int .i64) l (fun x0 => (tag_first x0).bind fun r => K [.dat .bool r []] none))
theorem tag_first_n : tag_first_g.Nat := fun R S l b F G K h => noBox_nat (args1_nat fun _ => bindr_nat fun _ => h _ _)
def Tb21 : Funs := Tb20.add 71 [(.int .i64)] tag_first_g
theorem Tb21_nat : Tb21.Nat := add_nat Tb20_nat tag_first_n
theorem Tb21_owes : ∀ f, Owes Tryd.prog Tb21 f := add_owes (E := tag_first_E) (Tab.env_ok tab_ok _ _ _ _) mixed Tb20_nat Tb20_owes (fn := Tryd.f71) (code := tag_first_c) Tryd.func71 (by kernel_rfl) (by kernel_rfl) fun l b r b' h => by
  obtain ⟨rfl, h⟩ := noBox_some h
  obtain ⟨x0, h1, h2⟩ := own1 (E := tag_first_E) rfl h
  exact ⟨FUEL, (h2 _ _ _ _ _ _).trans ((tag_first_eq _ x0 _).trans h1)⟩
noncomputable abbrev tag_Right_c : Code := Tryd.f72.body.getD .skip
def tag_Right_E : Env := tab.env (fun _ => []) (fun _ => []) [] [(.int .i64)]
theorem tag_Right_t (R : Type) (kk : Nat) (tag_0 : Int) (K : List SV → Option Box → Option R) : evFn tag_Right_E (Tb21 R) kk Tryd.f72 tag_Right_c [.dat (.int .i64) tag_0 []] none K =
  tag_Right_s0 tag_0 (fun a0 => K [.dat .bool a0 []] none) := by kernel_rfl
theorem tag_Right_eq (R : Type) (tag_0 : Int) (K : List SV → Option Box → Option R) : evFn tag_Right_E (Tb21 R) FUEL Tryd.f72 tag_Right_c [.dat (.int .i64) tag_0 []] none K = (tag_Right tag_0).bind fun r => K [.dat .bool r []] none := by
  rw [tag_Right_t]
  simp only [tag_Right, tag_Right_s0_bind, cond_bind, within_bind, none_bind, some_bind, sum_bind, bind_bind, Sum.elim_inl, Sum.elim_inr]
def tag_Right_g : Pure := fun R l b K => noBox b (args1 (.int .i64) l (fun x0 => (tag_Right x0).bind fun r => K [.dat .bool r []] none))
theorem tag_Right_n : tag_Right_g.Nat := fun R S l b F G K h => noBox_nat (args1_nat fun _ => bindr_nat fun _ => h _ _)
def Tb22 : Funs := Tb21.add 72 [(.int .i64)] tag_Right_g
theorem Tb22_nat : Tb22.Nat := add_nat Tb21_nat tag_Right_n
theorem Tb22_owes : ∀ f, Owes Tryd.prog Tb22 f := add_owes (E := tag_Right_E) (Tab.env_ok tab_ok _ _ _ _) mixed Tb21_nat Tb21_owes (fn := Tryd.f72) (code := tag_Right_c) Tryd.func72 (by kernel_rfl) (by kernel_rfl) fun l b r b' h => by
  obtain ⟨rfl, h⟩ := noBox_some h
  obtain ⟨x0, h1, h2⟩ := own1 (E := tag_Right_E) rfl h
  exact ⟨FUEL, (h2 _ _ _ _ _ _).trans ((tag_Right_eq _ x0 _).trans h1)⟩
noncomputable abbrev tag_Get_c : Code := Tryd.f52.body.getD .skip
def tag_Get_E : Env := tab.env (fun _ => []) (fun _ => []) [] [.str, (.int .i64)]
theorem tag_Get_t (R : Type) (kk : Nat) (b_0 : ByteArray) (at_1 : Int) (K : List SV → Option Box → Option R) : evFn tag_Get_E (Tb22 R) kk Tryd.f52 tag_Get_c [.dat .str b_0 [], .dat (.int .i64) at_1 []] none K =
  tag_Get_s0 b_0 at_1 (fun a0 a1 a2 => K [.dat (.int .i64) a0 [], .dat (.int .i64) a1 [], .dat (.int .i64) a2 []] none) := by kernel_rfl
theorem tag_Get_eq (R : Type) (b_0 : ByteArray) (at_1 : Int) (K : List SV → Option Box → Option R) : evFn tag_Get_E (Tb22 R) FUEL Tryd.f52 tag_Get_c [.dat .str b_0 [], .dat (.int .i64) at_1 []] none K = (tag_Get b_0 at_1).bind fun r => K [.dat (.int .i64) r.1 [], .dat (.int .i64) r.2.1 [], .dat (.int .i64) r.2.2 []] none := by
  rw [tag_Get_t]
  simp only [tag_Get, tag_Get_s0_bind, cond_bind, within_bind, none_bind, some_bind, sum_bind, bind_bind, Sum.elim_inl, Sum.elim_inr]
def tag_Get_g : Pure := fun R l b K => noBox b (args2 .str (.int .i64) l (fun x0 x1 => (tag_Get x0 x1).bind fun r => K [.dat (.int .i64) r.1 [], .dat (.int .i64) r.2.1 [], .dat (.int .i64) r.2.2 []] none))
theorem tag_Get_n : tag_Get_g.Nat := fun R S l b F G K h => noBox_nat (args2_nat fun _ _ => bindr_nat fun _ => h _ _)
def Tb23 : Funs := Tb22.add 52 [.str, (.int .i64)] tag_Get_g
theorem Tb23_nat : Tb23.Nat := add_nat Tb22_nat tag_Get_n
theorem Tb23_owes : ∀ f, Owes Tryd.prog Tb23 f := add_owes (E := tag_Get_E) (Tab.env_ok tab_ok _ _ _ _) mixed Tb22_nat Tb22_owes (fn := Tryd.f52) (code := tag_Get_c) Tryd.func52 (by kernel_rfl) (by kernel_rfl) fun l b r b' h => by
  obtain ⟨rfl, h⟩ := noBox_some h
  obtain ⟨x0, x1, h1, h2⟩ := own2 (E := tag_Get_E) rfl h
  exact ⟨FUEL, (h2 _ _ _ _ _ _).trans ((tag_Get_eq _ x0 x1 _).trans h1)⟩
noncomputable abbrev ber_Size_c : Code := Tryd.f73.body.getD .skip
def ber_Size_E : Env := tab.env (fun _ => []) (fun _ => []) [] [(.int .i64)]
theorem ber_Size_t (R : Type) (kk : Nat) (n_0 : Int) (K : List SV → Option Box → Option R) : evFn ber_Size_E (Tb23 R) kk Tryd.f73 ber_Size_c [.dat (.int .i64) n_0 []] none K =
  ber_Size_s0 n_0 (fun a0 => K [.dat (.int .i64) a0 []] none) := by kernel_rfl
theorem ber_Size_eq (R : Type) (n_0 : Int) (K : List SV → Option Box → Option R) : evFn ber_Size_E (Tb23 R) FUEL Tryd.f73 ber_Size_c [.dat (.int .i64) n_0 []] none K = (ber_Size n_0).bind fun r => K [.dat (.int .i64) r []] none := by
  rw [ber_Size_t]
  simp only [ber_Size, ber_Size_s0_bind, cond_bind, within_bind, none_bind, some_bind, sum_bind, bind_bind, Sum.elim_inl, Sum.elim_inr]
def ber_Size_g : Pure := fun R l b K => noBox b (args1 (.int .i64) l (fun x0 => (ber_Size x0).bind fun r => K [.dat (.int .i64) r []] none))
theorem ber_Size_n : ber_Size_g.Nat := fun R S l b F G K h => noBox_nat (args1_nat fun _ => bindr_nat fun _ => h _ _)
def Tb24 : Funs := Tb23.add 73 [(.int .i64)] ber_Size_g
theorem Tb24_nat : Tb24.Nat := add_nat Tb23_nat ber_Size_n
theorem Tb24_owes : ∀ f, Owes Tryd.prog Tb24 f := add_owes (E := ber_Size_E) (Tab.env_ok tab_ok _ _ _ _) mixed Tb23_nat Tb23_owes (fn := Tryd.f73) (code := ber_Size_c) Tryd.func73 (by kernel_rfl) (by kernel_rfl) fun l b r b' h => by
  obtain ⟨rfl, h⟩ := noBox_some h
  obtain ⟨x0, h1, h2⟩ := own1 (E := ber_Size_E) rfl h
  exact ⟨FUEL, (h2 _ _ _ _ _ _).trans ((ber_Size_eq _ x0 _).trans h1)⟩
noncomputable abbrev ber_Get_c : Code := Tryd.f53.body.getD .skip
def ber_Get_E : Env := tab.env (fun i => bif Nat.beq i 14 then [0, 1, 7, 8, 44, 45] else []) (fun i => bif Nat.beq i 14 then [1, 7, 8] else []) [] [.str, (.int .i64)]
def ber_Get_h0 (b_0 : ByteArray) (at_1 : Int) (t7 : Int) (t8 : Int) (t44 : Int) (t45 : Int) : State := ⟨[[.dat .str b_0 []], [.dat (.int .i64) at_1 []], U_, U_, U_, U_, U_, [.dat (.int .i64) t7 []], [.dat (.int .i64) t8 []], U_, U_, U_, U_, U_, U_, U_, U_, U_, U_, U_, U_, U_, U_, U_, U_, U_, U_, U_, U_, U_, U_, U_, U_, U_, U_, U_, U_, U_, U_, U_, U_, U_, U_, U_, [.dat (.int .i64) t44 []], [.dat (.int .i64) t45 []], U_, U_, U_, U_, U_, U_, U_, U_, U_, U_, U_, U_, U_, U_, U_, U_, U_, U_, U_, U_, U_], [N_, N_, N_, N_, N_, N_, N_, N_, N_, N_, N_, N_, N_, N_, N_, N_, N_, N_, N_, N_, N_, N_, N_, N_, N_, N_, N_, N_, N_, N_, N_, N_, N_, N_, N_, N_, N_, N_, N_, N_, N_, N_, N_, N_, N_, N_, N_, N_, N_, N_, N_, N_, N_, N_, N_, N_, N_, N_, N_, N_, N_, N_, N_, N_, N_, N_, N_, N_]⟩
def ber_Get_x0_0 (at_1 : Int) (t7 : Int) (t8 : Int) : State := ⟨[U_, [.dat (.int .i64) at_1 []], U_, U_, U_, U_, U_, [.dat (.int .i64) t7 []], [.dat (.int .i64) t8 []], U_, U_, U_, U_, U_, U_, U_, U_, U_, U_, U_, U_, U_, U_, U_, U_, U_, U_, U_, U_, U_, U_, U_, U_, U_, U_, U_, U_, U_, U_, U_, U_, U_, U_, U_, U_, U_, U_, U_, U_, U_, U_, U_, U_, U_, U_, U_, U_, U_, U_, U_, U_, U_, U_, U_, U_, U_, U_], [N_, N_, N_, N_, N_, N_, N_, N_, N_, N_, N_, N_, N_, N_, N_, N_, N_, N_, N_, N_, N_, N_, N_, N_, N_, N_, N_, N_, N_, N_, N_, N_, N_, N_, N_, N_, N_, N_, N_, N_, N_, N_, N_, N_, N_, N_, N_, N_, N_, N_, N_, N_, N_, N_, N_, N_, N_, N_, N_, N_, N_, N_, N_, N_, N_, N_, N_, N_]⟩
theorem ber_Get_t (R : Type) (kk : Nat) (b_0 : ByteArray) (at_1 : Int) (K : List SV → Option Box → Option R) : evFn ber_Get_E (Tb24 R) kk Tryd.f53 ber_Get_c [.dat .str b_0 [], .dat (.int .i64) at_1 []] none K =
  ber_Get_s0 b_0 at_1 (fun a0 a1 a2 => K [.dat (.int .i64) a0 [], .dat (.int .i64) a1 [], .dat (.int .i64) a2 []] none) (fun a0 a1 a2 a3 a4 a5 => loopR (ev ber_Get_E (Tb24 R) kk (sub [1, 1, 1, 1, 1, 1, 1, 0, 1, 0, 0] ber_Get_c)) [0, 1, 7, 8, 44, 45] [1, 7, 8] kk (ber_Get_h0 a0 a1 a2 a3 a4 a5) (kBlock 0 (kSeq ber_Get_E (Tb24 R) kk (sub [1, 1, 1, 1, 1, 1, 1, 1] ber_Get_c) (kFin ber_Get_E Tryd.f53.results.toList none K)))) := by kernel_rfl
theorem ber_Get_d0 (R : Type) (kk k : Nat) (b_0 : ByteArray) (at_1 : Int) (t7 : Int) (t8 : Int) (t44 : Int) (t45 : Int) (K : Ex → State → Option R) : loopR (ev ber_Get_E (Tb24 R) kk (sub [1, 1, 1, 1, 1, 1, 1, 0, 1, 0, 0] ber_Get_c)) [0, 1, 7, 8, 44, 45] [1, 7, 8] (k + 1) (ber_Get_h0 b_0 at_1 t7 t8 t44 t45) K =
  ber_Get_s1 b_0 at_1 t7 t8 t44 t45 (fun a0 a1 a2 a3 a4 a5 => loopR (ev ber_Get_E (Tb24 R) kk (sub [1, 1, 1, 1, 1, 1, 1, 0, 1, 0, 0] ber_Get_c)) [0, 1, 7, 8, 44, 45] [1, 7, 8] k (ber_Get_h0 a0 a1 a2 a3 a4 a5) K) (fun a0 a1 a2 => K (.exit 0) (ber_Get_x0_0 a0 a1 a2)) := by kernel_rfl
theorem ber_Get_y0_0 (R : Type) (kk : Nat) (at_1 : Int) (t7 : Int) (t8 : Int) (K : List SV → Option Box → Option R) : (kBlock 0 (kSeq ber_Get_E (Tb24 R) kk (sub [1, 1, 1, 1, 1, 1, 1, 1] ber_Get_c) (kFin ber_Get_E Tryd.f53.results.toList none K))) (.exit 0) (ber_Get_x0_0 at_1 t7 t8) =
  ber_Get_s2 at_1 t7 t8 (fun a0 a1 a2 => K [.dat (.int .i64) a0 [], .dat (.int .i64) a1 [], .dat (.int .i64) a2 []] none) := by kernel_rfl
theorem ber_Get_lp0 (R : Type) (k : Nat) (b_0 : ByteArray) (at_1 : Int) (t7 : Int) (t8 : Int) (t44 : Int) (t45 : Int) (K : Ex → State → Option R) : loopR (ev ber_Get_E (Tb24 R) FUEL (sub [1, 1, 1, 1, 1, 1, 1, 0, 1, 0, 0] ber_Get_c)) [0, 1, 7, 8, 44, 45] [1, 7, 8] k (ber_Get_h0 b_0 at_1 t7 t8 t44 t45) K = (ber_Get_l0 k b_0 at_1 t7 t8 t44 t45).bind fun e => K (.exit 0) (ber_Get_x0_0 e.1 e.2.1 e.2.2) := by
  induction k generalizing b_0 at_1 t7 t8 t44 t45 with
  | zero => rfl
  | succ k ih =>
    rw [ber_Get_d0]
    simp only [ber_Get_l0, ber_Get_s0_bind, ber_Get_s1_bind, ber_Get_s2_bind, ih, cond_bind, within_bind, none_bind, some_bind, sum_bind, bind_bind, Sum.elim_inl, Sum.elim_inr]
theorem ber_Get_eq (R : Type) (b_0 : ByteArray) (at_1 : Int) (K : List SV → Option Box → Option R) : evFn ber_Get_E (Tb24 R) FUEL Tryd.f53 ber_Get_c [.dat .str b_0 [], .dat (.int .i64) at_1 []] none K = (ber_Get b_0 at_1).bind fun r => K [.dat (.int .i64) r.1 [], .dat (.int .i64) r.2.1 [], .dat (.int .i64) r.2.2 []] none := by
  rw [ber_Get_t]
  simp only [ber_Get, ber_Get_s0_bind, ber_Get_s1_bind, ber_Get_s2_bind, ber_Get_lp0, ber_Get_y0_0, cond_bind, within_bind, none_bind, some_bind, sum_bind, bind_bind, Sum.elim_inl, Sum.elim_inr]
def ber_Get_g : Pure := fun R l b K => noBox b (args2 .str (.int .i64) l (fun x0 x1 => (ber_Get x0 x1).bind fun r => K [.dat (.int .i64) r.1 [], .dat (.int .i64) r.2.1 [], .dat (.int .i64) r.2.2 []] none))
theorem ber_Get_n : ber_Get_g.Nat := fun R S l b F G K h => noBox_nat (args2_nat fun _ _ => bindr_nat fun _ => h _ _)
def Tb25 : Funs := Tb24.add 53 [.str, (.int .i64)] ber_Get_g
theorem Tb25_nat : Tb25.Nat := add_nat Tb24_nat ber_Get_n
theorem Tb25_owes : ∀ f, Owes Tryd.prog Tb25 f := add_owes (E := ber_Get_E) (Tab.env_ok tab_ok _ _ _ _) mixed Tb24_nat Tb24_owes (fn := Tryd.f53) (code := ber_Get_c) Tryd.func53 (by kernel_rfl) (by kernel_rfl) fun l b r b' h => by
  obtain ⟨rfl, h⟩ := noBox_some h
  obtain ⟨x0, x1, h1, h2⟩ := own2 (E := ber_Get_E) rfl h
  exact ⟨FUEL, (h2 _ _ _ _ _ _).trans ((ber_Get_eq _ x0 x1 _).trans h1)⟩
noncomputable abbrev tlv_Get_c : Code := Tryd.f38.body.getD .skip
def tlv_Get_E : Env := tab.env (fun i => bif Nat.beq i 4 then [0, 5, 6, 7, 13] else []) (fun i => bif Nat.beq i 4 then [2, 3, 4, 5] else []) [] [.str]
def tlv_Get_h0 (b_0 : ByteArray) (t5 : Zt9) (t7 : Int) (bt6 : Zt5) : State := ⟨[[.dat .str b_0 []], U_, U_, U_, U_, [.dat (.sl 109 (.pair (.int .i64) (.pair .str .unit))) t5 [[]]], [.ptr 14 (.spc .mp (.int .i64) .bool) []], [.dat (.int .i64) t7 []], U_, U_, U_, U_, U_, [.ptr 14 (.spc .mp (.int .i64) .bool) []], U_, U_, U_, U_, U_, U_, U_, U_, U_, U_, U_, U_, U_, U_, U_, U_, U_, U_, U_, U_, U_, U_, U_, U_, U_, U_, U_, U_, U_, U_, U_, U_, U_, U_, U_, U_, U_, U_, U_, U_, U_, U_, U_, U_, U_, U_, U_, U_, U_, U_, U_, U_, U_, U_, U_, U_, U_, U_], [N_, N_, N_, N_, N_, N_, N_, N_, N_, N_, N_, N_, N_, N_, some ⟨(.spc .mp (.int .i64) .bool), bt6, []⟩, N_, N_, N_, N_, N_, N_, N_, N_, N_, N_, N_, N_, N_, N_, N_, N_, N_, N_, N_, N_, N_, N_, N_, N_, N_, N_, N_, N_, N_, N_, N_, N_, N_, N_, N_, N_, N_, N_, N_, N_, N_, N_, N_, N_, N_, N_, N_, N_, N_, N_, N_, N_, N_, N_, N_, N_, N_, N_]⟩
def tlv_Get_x0_0 (t2 : Zt9) (t3 : Int) (t4 : Int) (t5 : Zt9) : State := ⟨[U_, U_, [.dat (.sl 109 (.pair (.int .i64) (.pair .str .unit))) t2 [[]]], [.dat (.int .i64) t3 []], [.dat (.int .i64) t4 []], [.dat (.sl 109 (.pair (.int .i64) (.pair .str .unit))) t5 [[]]], U_, U_, U_, U_, U_, U_, U_, U_, U_, U_, U_, U_, U_, U_, U_, U_, U_, U_, U_, U_, U_, U_, U_, U_, U_, U_, U_, U_, U_, U_, U_, U_, U_, U_, U_, U_, U_, U_, U_, U_, U_, U_, U_, U_, U_, U_, U_, U_, U_, U_, U_, U_, U_, U_, U_, U_, U_, U_, U_, U_, U_, U_, U_, U_, U_, U_], [N_, N_, N_, N_, N_, N_, N_, N_, N_, N_, N_, N_, N_, N_, N_, N_, N_, N_, N_, N_, N_, N_, N_, N_, N_, N_, N_, N_, N_, N_, N_, N_, N_, N_, N_, N_, N_, N_, N_, N_, N_, N_, N_, N_, N_, N_, N_, N_, N_, N_, N_, N_, N_, N_, N_, N_, N_, N_, N_, N_, N_, N_, N_, N_, N_, N_, N_, N_, N_, N_, N_, N_, N_]⟩
def tlv_Get_x0_1 (t5 : Zt9) : State := ⟨[U_, U_, U_, U_, U_, [.dat (.sl 109 (.pair (.int .i64) (.pair .str .unit))) t5 [[]]], U_, U_, U_, U_, U_, U_, U_, U_, U_, U_, U_, U_, U_, U_, U_, U_, U_, U_, U_, U_, U_, U_, U_, U_, U_, U_, U_, U_, U_, U_, U_, U_, U_, U_, U_, U_, U_, U_, U_, U_, U_, U_, U_, U_, U_, U_, U_, U_, U_, U_, U_, U_, U_, U_, U_, U_, U_, U_, U_, U_, U_, U_, U_, U_, U_, U_], [N_, N_, N_, N_, N_, N_, N_, N_, N_, N_, N_, N_, N_, N_, N_, N_, N_, N_, N_, N_, N_, N_, N_, N_, N_, N_, N_, N_, N_, N_, N_, N_, N_, N_, N_, N_, N_, N_, N_, N_, N_, N_, N_, N_, N_, N_, N_, N_, N_, N_, N_, N_, N_, N_, N_, N_, N_, N_, N_, N_, N_, N_, N_, N_, N_, N_, N_, N_, N_, N_, N_, N_, N_]⟩
theorem tlv_Get_t (R : Type) (kk : Nat) (b_0 : ByteArray) (K : List SV → Option Box → Option R) : evFn tlv_Get_E (Tb25 R) kk Tryd.f38 tlv_Get_c [.dat .str b_0 []] none K =
  tlv_Get_s0 b_0 (fun a0 a1 a2 a3 => loopR (ev tlv_Get_E (Tb25 R) kk (sub [1, 1, 1, 0, 1, 0, 0] tlv_Get_c)) [0, 5, 6, 7, 13] [2, 3, 4, 5] kk (tlv_Get_h0 a0 a1 a2 a3) (kBlock 0 (kSeq tlv_Get_E (Tb25 R) kk (sub [1, 1, 1, 1] tlv_Get_c) (kFin tlv_Get_E Tryd.f38.results.toList none K)))) := by kernel_rfl
theorem tlv_Get_d0 (R : Type) (kk k : Nat) (b_0 : ByteArray) (t5 : Zt9) (t7 : Int) (bt6 : Zt5) (K : Ex → State → Option R) : loopR (ev tlv_Get_E (Tb25 R) kk (sub [1, 1, 1, 0, 1, 0, 0] tlv_Get_c)) [0, 5, 6, 7, 13] [2, 3, 4, 5] (k + 1) (tlv_Get_h0 b_0 t5 t7 bt6) K =
  tlv_Get_s1 b_0 t5 t7 bt6 (fun a0 a1 a2 a3 => K .ret (tlv_Get_x0_0 a0 a1 a2 a3)) (fun a0 a1 a2 a3 => loopR (ev tlv_Get_E (Tb25 R) kk (sub [1, 1, 1, 0, 1, 0, 0] tlv_Get_c)) [0, 5, 6, 7, 13] [2, 3, 4, 5] k (tlv_Get_h0 a0 a1 a2 a3) K) (fun a0 => K (.exit 0) (tlv_Get_x0_1 a0)) := by kernel_rfl
theorem tlv_Get_y0_0 (R : Type) (kk : Nat) (t2 : Zt9) (t3 : Int) (t4 : Int) (t5 : Zt9) (K : List SV → Option Box → Option R) : (kBlock 0 (kSeq tlv_Get_E (Tb25 R) kk (sub [1, 1, 1, 1] tlv_Get_c) (kFin tlv_Get_E Tryd.f38.results.toList none K))) .ret (tlv_Get_x0_0 t2 t3 t4 t5) =
  tlv_Get_s2 t2 t3 t4 t5 (fun a0 a1 a2 => K [.dat (.sl 109 (.pair (.int .i64) (.pair .str .unit))) a0 [[]], .dat (.int .i64) a1 [], .dat (.int .i64) a2 []] none) := by kernel_rfl
theorem tlv_Get_y0_1 (R : Type) (kk : Nat) (t5 : Zt9) (K : List SV → Option Box → Option R) : (kBlock 0 (kSeq tlv_Get_E (Tb25 R) kk (sub [1, 1, 1, 1] tlv_Get_c) (kFin tlv_Get_E Tryd.f38.results.toList none K))) (.exit 0) (tlv_Get_x0_1 t5) =
  tlv_Get_s3 t5 (fun a0 a1 a2 => K [.dat (.sl 109 (.pair (.int .i64) (.pair .str .unit))) a0 [], .dat (.int .i64) a1 [], .dat (.int .i64) a2 []] none) := by kernel_rfl
theorem tlv_Get_lp0 (R : Type) (k : Nat) (b_0 : ByteArray) (t5 : Zt9) (t7 : Int) (bt6 : Zt5) (K : Ex → State → Option R) : loopR (ev tlv_Get_E (Tb25 R) FUEL (sub [1, 1, 1, 0, 1, 0, 0] tlv_Get_c)) [0, 5, 6, 7, 13] [2, 3, 4, 5] k (tlv_Get_h0 b_0 t5 t7 bt6) K = (tlv_Get_l0 k b_0 t5 t7 bt6).bind fun e => (Sum.elim (fun (we : Zt19) => K .ret (tlv_Get_x0_0 we.1 we.2.1 we.2.2.1 we.2.2.2)) (fun (we : Zt9) => K (.exit 0) (tlv_Get_x0_1 we)) e) := by
  induction k generalizing b_0 t5 t7 bt6 with
  | zero => rfl
  | succ k ih =>
    rw [tlv_Get_d0]
    simp only [tlv_Get_l0, tlv_Get_s0_bind, tlv_Get_s1_bind, tlv_Get_s2_bind, tlv_Get_s3_bind, ih, cond_bind, within_bind, none_bind, some_bind, sum_bind, bind_bind, Sum.elim_inl, Sum.elim_inr]
theorem tlv_Get_eq (R : Type) (b_0 : ByteArray) (K : List SV → Option Box → Option R) : evFn tlv_Get_E (Tb25 R) FUEL Tryd.f38 tlv_Get_c [.dat .str b_0 []] none K = (tlv_Get b_0).bind fun r => (Sum.elim (fun (wr : Zt14) => K [.dat (.sl 109 (.pair (.int .i64) (.pair .str .unit))) wr.1 [[]], .dat (.int .i64) wr.2.1 [], .dat (.int .i64) wr.2.2 []] none) (fun (wr : Zt14) => K [.dat (.sl 109 (.pair (.int .i64) (.pair .str .unit))) wr.1 [], .dat (.int .i64) wr.2.1 [], .dat (.int .i64) wr.2.2 []] none) r) := by
  rw [tlv_Get_t]
  simp only [tlv_Get, tlv_Get_s0_bind, tlv_Get_s1_bind, tlv_Get_s2_bind, tlv_Get_s3_bind, tlv_Get_lp0, tlv_Get_y0_0, tlv_Get_y0_1, cond_bind, within_bind, none_bind, some_bind, sum_bind, bind_bind, Sum.elim_inl, Sum.elim_inr]
def tlv_Get_g : Pure := fun R l b K => noBox b (args1 .str l (fun x0 => (tlv_Get x0).bind fun r => (Sum.elim (fun (wr : Zt14) => K [.dat (.sl 109 (.pair (.int .i64) (.pair .str .unit))) wr.1 [[]], .dat (.int .i64) wr.2.1 [], .dat (.int .i64) wr.2.2 []] none) (fun (wr : Zt14) => K [.dat (.sl 109 (.pair (.int .i64) (.pair .str .unit))) wr.1 [], .dat (.int .i64) wr.2.1 [], .dat (.int .i64) wr.2.2 []] none) r)))
theorem tlv_Get_n : tlv_Get_g.Nat := fun R S l b F G K h => noBox_nat (args1_nat fun _ => bindr_nat fun _ => sum_nat (fun _ => h _ _) (fun _ => h _ _))
def Tb26 : Funs := Tb25.add 38 [.str] tlv_Get_g
theorem Tb26_nat : Tb26.Nat := add_nat Tb25_nat tlv_Get_n
theorem Tb26_owes : ∀ f, Owes Tryd.prog Tb26 f := add_owes (E := tlv_Get_E) (Tab.env_ok tab_ok _ _ _ _) mixed Tb25_nat Tb25_owes (fn := Tryd.f38) (code := tlv_Get_c) Tryd.func38 (by kernel_rfl) (by kernel_rfl) fun l b r b' h => by
  obtain ⟨rfl, h⟩ := noBox_some h
  obtain ⟨x0, h1, h2⟩ := own1 (E := tlv_Get_E) rfl h
  exact ⟨FUEL, (h2 _ _ _ _ _ _).trans ((tlv_Get_eq _ x0 _).trans h1)⟩
noncomputable abbrev spec_Value_c : Code := Tryd.f22.body.getD .skip
def spec_Value_E : Env := tab.env (fun _ => []) (fun _ => []) [] [y7, .str]
theorem spec_Value_t (R : Type) (kk : Nat) (s_0 : Zt11) (text_1 : ByteArray) (K : List SV → Option Box → Option R) : evFn spec_Value_E (Tb26 R) kk Tryd.f22 spec_Value_c [.dat y7 s_0 [], .dat .str text_1 []] none K =
  spec_Value_s0 s_0 text_1 (fun a0 => K [.dat (.int .i64) a0 []] none) := by kernel_rfl
theorem spec_Value_eq (R : Type) (s_0 : Zt11) (text_1 : ByteArray) (K : List SV → Option Box → Option R) : evFn spec_Value_E (Tb26 R) FUEL Tryd.f22 spec_Value_c [.dat y7 s_0 [], .dat .str text_1 []] none K = (spec_Value s_0 text_1).bind fun r => K [.dat (.int .i64) r []] none := by
  rw [spec_Value_t]
  simp only [spec_Value, spec_Value_s0_bind, cond_bind, within_bind, none_bind, some_bind, sum_bind, bind_bind, Sum.elim_inl, Sum.elim_inr]
def spec_Value_g : Pure := fun R l b K => noBox b (args2 y7 .str l (fun x0 x1 => (spec_Value x0 x1).bind fun r => K [.dat (.int .i64) r []] none))
theorem spec_Value_n : spec_Value_g.Nat := fun R S l b F G K h => noBox_nat (args2_nat fun _ _ => bindr_nat fun _ => h _ _)
def Tb27 : Funs := Tb26.add 22 [y7, .str] spec_Value_g
theorem Tb27_nat : Tb27.Nat := add_nat Tb26_nat spec_Value_n
theorem Tb27_owes : ∀ f, Owes Tryd.prog Tb27 f := add_owes (E := spec_Value_E) (Tab.env_ok tab_ok _ _ _ _) mixed Tb26_nat Tb26_owes (fn := Tryd.f22) (code := spec_Value_c) Tryd.func22 (by kernel_rfl) (by kernel_rfl) fun l b r b' h => by
  obtain ⟨rfl, h⟩ := noBox_some h
  obtain ⟨x0, x1, h1, h2⟩ := own2 (E := spec_Value_E) rfl h
  exact ⟨FUEL, (h2 _ _ _ _ _ _).trans ((spec_Value_eq _ x0 x1 _).trans h1)⟩
noncomputable abbrev rule_padded_c : Code := Tryd.f42.body.getD .skip
def rule_padded_E : Env := tab.env (fun _ => []) (fun _ => []) [] [y7]
theorem rule_padded_t (R : Type) (kk : Nat) (s_0 : Zt11) (K : List SV → Option Box → Option R) : evFn rule_padded_E (Tb27 R) kk Tryd.f42 rule_padded_c [.dat y7 s_0 []] none K =
  rule_padded_s0 s_0 (fun a0 => K [.dat .bool a0 []] none) := by kernel_rfl
theorem rule_padded_eq (R : Type) (s_0 : Zt11) (K : List SV → Option Box → Option R) : evFn rule_padded_E (Tb27 R) FUEL Tryd.f42 rule_padded_c [.dat y7 s_0 []] none K = (rule_padded s_0).bind fun r => K [.dat .bool r []] none := by
  rw [rule_padded_t]
  simp only [rule_padded, rule_padded_s0_bind, cond_bind, within_bind, none_bind, some_bind, sum_bind, bind_bind, Sum.elim_inl, Sum.elim_inr]
def rule_padded_g : Pure := fun R l b K => noBox b (args1 y7 l (fun x0 => (rule_padded x0).bind fun r => K [.dat .bool r []] none))
theorem rule_padded_n : rule_padded_g.Nat := fun R S l b F G K h => noBox_nat (args1_nat fun _ => bindr_nat fun _ => h _ _)
def Tb28 : Funs := Tb27.add 42 [y7] rule_padded_g
theorem Tb28_nat : Tb28.Nat := add_nat Tb27_nat rule_padded_n
theorem Tb28_owes : ∀ f, Owes Tryd.prog Tb28 f := add_owes (E := rule_padded_E) (Tab.env_ok tab_ok _ _ _ _) mixed Tb27_nat Tb27_owes (fn := Tryd.f42) (code := rule_padded_c) Tryd.func42 (by kernel_rfl) (by kernel_rfl) fun l b r b' h => by
  obtain ⟨rfl, h⟩ := noBox_some h
  obtain ⟨x0, h1, h2⟩ := own1 (E := rule_padded_E) rfl h
  exact ⟨FUEL, (h2 _ _ _ _ _ _).trans ((rule_padded_eq _ x0 _).trans h1)⟩
noncomputable abbrev codes_Check_c : Code := Tryd.f55.body.getD .skip
def codes_Check_E : Env := tab.env (fun i => bif Nat.beq i 5 then [4, 10, 11, 12, 13] else []) (fun i => bif Nat.beq i 5 then [2, 3] else []) [] [(.sl 51 (.pair .str (.pair .str .unit)))]
def codes_Check_h0 (t11 : Zt12) (t12 : Int) (t13 : Int) (bt4 : Zt7) : State := ⟨[U_, U_, U_, U_, [.ptr 11 (.spc .mp .str .bool) []], U_, U_, U_, U_, U_, [.ptr 11 (.spc .mp .str .bool) []], [.dat (.sl 51 (.pair .str (.pair .str .unit))) t11 []], [.dat (.int .i64) t12 []], [.dat (.int .i64) t13 []], U_, U_, U_, U_, U_, U_, U_, U_, U_, U_, U_, U_, U_], [N_, N_, N_, N_, N_, N_, N_, N_, N_, N_, N_, some ⟨(.spc .mp .str .bool), bt4, []⟩, N_, N_, N_, N_, N_, N_, N_, N_, N_, N_, N_, N_, N_, N_, N_, N_]⟩
def codes_Check_x0_0 (t2 : Int) (t3 : Int) : State := ⟨[U_, U_, [.dat (.int .i64) t2 []], [.dat (.int .i64) t3 []], U_, U_, U_, U_, U_, U_, U_, U_, U_, U_, U_, U_, U_, U_, U_, U_, U_, U_, U_, U_, U_, U_, U_], [N_, N_, N_, N_, N_, N_, N_, N_, N_, N_, N_, N_, N_, N_, N_, N_, N_, N_, N_, N_, N_, N_, N_, N_, N_, N_, N_, N_]⟩
def codes_Check_x0_1  : State := ⟨[U_, U_, U_, U_, U_, U_, U_, U_, U_, U_, U_, U_, U_, U_, U_, U_, U_, U_, U_, U_, U_, U_, U_, U_, U_, U_, U_], [N_, N_, N_, N_, N_, N_, N_, N_, N_, N_, N_, N_, N_, N_, N_, N_, N_, N_, N_, N_, N_, N_, N_, N_, N_, N_, N_, N_]⟩
theorem codes_Check_t (R : Type) (kk : Nat) (l_0 : Zt12) (K : List SV → Option Box → Option R) : evFn codes_Check_E (Tb28 R) kk Tryd.f55 codes_Check_c [.dat (.sl 51 (.pair .str (.pair .str .unit))) l_0 []] none K =
  codes_Check_s0 l_0 (fun a0 a1 => K [.dat (.int .i64) a0 [], .dat (.int .i64) a1 []] none) (fun a0 a1 a2 a3 => loopR (ev codes_Check_E (Tb28 R) kk (sub [1, 1, 1, 0, 1, 0, 0] codes_Check_c)) [4, 10, 11, 12, 13] [2, 3] kk (codes_Check_h0 a0 a1 a2 a3) (kBlock 0 (kSeq codes_Check_E (Tb28 R) kk (sub [1, 1, 1, 1] codes_Check_c) (kFin codes_Check_E Tryd.f55.results.toList none K)))) := by kernel_rfl
theorem codes_Check_d0 (R : Type) (kk k : Nat) (t11 : Zt12) (t12 : Int) (t13 : Int) (bt4 : Zt7) (K : Ex → State → Option R) : loopR (ev codes_Check_E (Tb28 R) kk (sub [1, 1, 1, 0, 1, 0, 0] codes_Check_c)) [4, 10, 11, 12, 13] [2, 3] (k + 1) (codes_Check_h0 t11 t12 t13 bt4) K =
  codes_Check_s1 t11 t12 t13 bt4 (fun a0 a1 => K .ret (codes_Check_x0_0 a0 a1)) (fun a0 a1 a2 a3 => loopR (ev codes_Check_E (Tb28 R) kk (sub [1, 1, 1, 0, 1, 0, 0] codes_Check_c)) [4, 10, 11, 12, 13] [2, 3] k (codes_Check_h0 a0 a1 a2 a3) K) (K (.exit 0) (codes_Check_x0_1)) := by kernel_rfl
theorem codes_Check_y0_0 (R : Type) (kk : Nat) (t2 : Int) (t3 : Int) (K : List SV → Option Box → Option R) : (kBlock 0 (kSeq codes_Check_E (Tb28 R) kk (sub [1, 1, 1, 1] codes_Check_c) (kFin codes_Check_E Tryd.f55.results.toList none K))) .ret (codes_Check_x0_0 t2 t3) =
  codes_Check_s2 t2 t3 (fun a0 a1 => K [.dat (.int .i64) a0 [], .dat (.int .i64) a1 []] none) := by kernel_rfl
theorem codes_Check_y0_1 (R : Type) (kk : Nat)  (K : List SV → Option Box → Option R) : (kBlock 0 (kSeq codes_Check_E (Tb28 R) kk (sub [1, 1, 1, 1] codes_Check_c) (kFin codes_Check_E Tryd.f55.results.toList none K))) (.exit 0) (codes_Check_x0_1) =
  codes_Check_s3 (fun a0 a1 => K [.dat (.int .i64) a0 [], .dat (.int .i64) a1 []] none) := by kernel_rfl
theorem codes_Check_lp0 (R : Type) (k : Nat) (t11 : Zt12) (t12 : Int) (t13 : Int) (bt4 : Zt7) (K : Ex → State → Option R) : loopR (ev codes_Check_E (Tb28 R) FUEL (sub [1, 1, 1, 0, 1, 0, 0] codes_Check_c)) [4, 10, 11, 12, 13] [2, 3] k (codes_Check_h0 t11 t12 t13 bt4) K = (codes_Check_l0 k t11 t12 t13 bt4).bind fun e => (Sum.elim (fun (we : (Int × Int)) => K .ret (codes_Check_x0_0 we.1 we.2)) (fun (we : Unit) => K (.exit 0) (codes_Check_x0_1)) e) := by
  induction k generalizing t11 t12 t13 bt4 with
  | zero => rfl
  | succ k ih =>
    rw [codes_Check_d0]
    simp only [codes_Check_l0, codes_Check_s0_bind, codes_Check_s1_bind, codes_Check_s2_bind, codes_Check_s3_bind, ih, cond_bind, within_bind, none_bind, some_bind, sum_bind, bind_bind, Sum.elim_inl, Sum.elim_inr]
theorem codes_Check_eq (R : Type) (l_0 : Zt12) (K : List SV → Option Box → Option R) : evFn codes_Check_E (Tb28 R) FUEL Tryd.f55 codes_Check_c [.dat (.sl 51 (.pair .str (.pair .str .unit))) l_0 []] none K = (codes_Check l_0).bind fun r => K [.dat (.int .i64) r.1 [], .dat (.int .i64) r.2 []] none := by
  rw [codes_Check_t]
  simp only [codes_Check, codes_Check_s0_bind, codes_Check_s1_bind, codes_Check_s2_bind, codes_Check_s3_bind, codes_Check_lp0, codes_Check_y0_0, codes_Check_y0_1, cond_bind, within_bind, none_bind, some_bind, sum_bind, bind_bind, Sum.elim_inl, Sum.elim_inr]
def codes_Check_g : Pure := fun R l b K => noBox b (args1 (.sl 51 (.pair .str (.pair .str .unit))) l (fun x0 => (codes_Check x0).bind fun r => K [.dat (.int .i64) r.1 [], .dat (.int .i64) r.2 []] none))
theorem codes_Check_n : codes_Check_g.Nat := fun R S l b F G K h => noBox_nat (args1_nat fun _ => bindr_nat fun _ => h _ _)
def Tb29 : Funs := Tb28.add 55 [(.sl 51 (.pair .str (.pair .str .unit)))] codes_Check_g
theorem Tb29_nat : Tb29.Nat := add_nat Tb28_nat codes_Check_n
theorem Tb29_owes : ∀ f, Owes Tryd.prog Tb29 f := add_owes (E := codes_Check_E) (Tab.env_ok tab_ok _ _ _ _) mixed Tb28_nat Tb28_owes (fn := Tryd.f55) (code := codes_Check_c) Tryd.func55 (by kernel_rfl) (by kernel_rfl) fun l b r b' h => by
  obtain ⟨rfl, h⟩ := noBox_some h
  obtain ⟨x0, h1, h2⟩ := own1 (E := codes_Check_E) rfl h
  exact ⟨FUEL, (h2 _ _ _ _ _ _).trans ((codes_Check_eq _ x0 _).trans h1)⟩
noncomputable abbrev rule_table_c : Code := Tryd.f43.body.getD .skip
def rule_table_E : Env := tab.env (fun i => bif Nat.beq i 5 then [4, 5, 25, 26, 27] else []) (fun i => bif Nat.beq i 5 then [6] else []) [] [(.sl 51 (.pair .str (.pair .str .unit))), y7, y7]
def rule_table_h0 (t25 : Zt12) (t26 : Int) (t27 : Int) (bt4 : Zt11) (bt5 : Zt11) : State := ⟨[U_, U_, U_, U_, [.ptr 5 y7 []], [.ptr 6 y7 []], U_, U_, U_, U_, U_, U_, U_, U_, U_, U_, U_, U_, U_, U_, U_, U_, U_, U_, U_, [.dat (.sl 51 (.pair .str (.pair .str .unit))) t25 []], [.dat (.int .i64) t26 []], [.dat (.int .i64) t27 []], U_, U_, U_, U_, U_, U_, U_, U_, U_, U_, U_, U_, U_, U_, U_, U_, U_, U_], [N_, N_, N_, N_, N_, some ⟨y7, bt4, []⟩, some ⟨y7, bt5, []⟩, N_, N_, N_, N_, N_, N_, N_, N_, N_, N_, N_, N_, N_, N_, N_, N_, N_, N_, N_, N_, N_, N_, N_, N_, N_, N_, N_, N_, N_, N_, N_, N_, N_, N_, N_, N_, N_, N_, N_, N_]⟩
def rule_table_x0_0 (t6 : Int) : State := ⟨[U_, U_, U_, U_, U_, U_, [.dat (.int .i64) t6 []], U_, U_, U_, U_, U_, U_, U_, U_, U_, U_, U_, U_, U_, U_, U_, U_, U_, U_, U_, U_, U_, U_, U_, U_, U_, U_, U_, U_, U_, U_, U_, U_, U_, U_, U_, U_, U_, U_, U_], [N_, N_, N_, N_, N_, N_, N_, N_, N_, N_, N_, N_, N_, N_, N_, N_, N_, N_, N_, N_, N_, N_, N_, N_, N_, N_, N_, N_, N_, N_, N_, N_, N_, N_, N_, N_, N_, N_, N_, N_, N_, N_, N_, N_, N_, N_, N_]⟩
def rule_table_x0_1  : State := ⟨[U_, U_, U_, U_, U_, U_, U_, U_, U_, U_, U_, U_, U_, U_, U_, U_, U_, U_, U_, U_, U_, U_, U_, U_, U_, U_, U_, U_, U_, U_, U_, U_, U_, U_, U_, U_, U_, U_, U_, U_, U_, U_, U_, U_, U_, U_], [N_, N_, N_, N_, N_, N_, N_, N_, N_, N_, N_, N_, N_, N_, N_, N_, N_, N_, N_, N_, N_, N_, N_, N_, N_, N_, N_, N_, N_, N_, N_, N_, N_, N_, N_, N_, N_, N_, N_, N_, N_, N_, N_, N_, N_, N_, N_]⟩
theorem rule_table_t (R : Type) (kk : Nat) (l_0 : Zt12) (from_1 : Zt11) (to_2 : Zt11) (K : List SV → Option Box → Option R) : evFn rule_table_E (Tb29 R) kk Tryd.f43 rule_table_c [.dat (.sl 51 (.pair .str (.pair .str .unit))) l_0 [], .dat y7 from_1 [], .dat y7 to_2 []] none K =
  rule_table_s0 l_0 from_1 to_2 (fun a0 => K [.dat (.int .i64) a0 []] none) (fun a0 a1 a2 a3 a4 => loopR (ev rule_table_E (Tb29 R) kk (sub [1, 1, 0, 1, 0, 0] rule_table_c)) [4, 5, 25, 26, 27] [6] kk (rule_table_h0 a0 a1 a2 a3 a4) (kBlock 0 (kSeq rule_table_E (Tb29 R) kk (sub [1, 1, 1] rule_table_c) (kFin rule_table_E Tryd.f43.results.toList none K)))) := by kernel_rfl
theorem rule_table_d0 (R : Type) (kk k : Nat) (t25 : Zt12) (t26 : Int) (t27 : Int) (bt4 : Zt11) (bt5 : Zt11) (K : Ex → State → Option R) : loopR (ev rule_table_E (Tb29 R) kk (sub [1, 1, 0, 1, 0, 0] rule_table_c)) [4, 5, 25, 26, 27] [6] (k + 1) (rule_table_h0 t25 t26 t27 bt4 bt5) K =
  rule_table_s1 t25 t26 t27 bt4 bt5 (fun a0 => K .ret (rule_table_x0_0 a0)) (fun a0 a1 a2 a3 a4 => loopR (ev rule_table_E (Tb29 R) kk (sub [1, 1, 0, 1, 0, 0] rule_table_c)) [4, 5, 25, 26, 27] [6] k (rule_table_h0 a0 a1 a2 a3 a4) K) (K (.exit 0) (rule_table_x0_1)) := by kernel_rfl
theorem rule_table_y0_0 (R : Type) (kk : Nat) (t6 : Int) (K : List SV → Option Box → Option R) : (kBlock 0 (kSeq rule_table_E (Tb29 R) kk (sub [1, 1, 1] rule_table_c) (kFin rule_table_E Tryd.f43.results.toList none K))) .ret (rule_table_x0_0 t6) =
  rule_table_s2 t6 (fun a0 => K [.dat (.int .i64) a0 []] none) := by kernel_rfl
theorem rule_table_y0_1 (R : Type) (kk : Nat)  (K : List SV → Option Box → Option R) : (kBlock 0 (kSeq rule_table_E (Tb29 R) kk (sub [1, 1, 1] rule_table_c) (kFin rule_table_E Tryd.f43.results.toList none K))) (.exit 0) (rule_table_x0_1) =
  rule_table_s3 (fun a0 => K [.dat (.int .i64) a0 []] none) := by kernel_rfl
theorem rule_table_lp0 (R : Type) (k : Nat) (t25 : Zt12) (t26 : Int) (t27 : Int) (bt4 : Zt11) (bt5 : Zt11) (K : Ex → State → Option R) : loopR (ev rule_table_E (Tb29 R) FUEL (sub [1, 1, 0, 1, 0, 0] rule_table_c)) [4, 5, 25, 26, 27] [6] k (rule_table_h0 t25 t26 t27 bt4 bt5) K = (rule_table_l0 k t25 t26 t27 bt4 bt5).bind fun e => (Sum.elim (fun (we : Int) => K .ret (rule_table_x0_0 we)) (fun (we : Unit) => K (.exit 0) (rule_table_x0_1)) e) := by
  induction k generalizing t25 t26 t27 bt4 bt5 with
  | zero => rfl
  | succ k ih =>
    rw [rule_table_d0]
    simp only [rule_table_l0, rule_table_s0_bind, rule_table_s1_bind, rule_table_s2_bind, rule_table_s3_bind, ih, cond_bind, within_bind, none_bind, some_bind, sum_bind, bind_bind, Sum.elim_inl, Sum.elim_inr]
theorem rule_table_eq (R : Type) (l_0 : Zt12) (from_1 : Zt11) (to_2 : Zt11) (K : List SV → Option Box → Option R) : evFn rule_table_E (Tb29 R) FUEL Tryd.f43 rule_table_c [.dat (.sl 51 (.pair .str (.pair .str .unit))) l_0 [], .dat y7 from_1 [], .dat y7 to_2 []] none K = (rule_table l_0 from_1 to_2).bind fun r => K [.dat (.int .i64) r []] none := by
  rw [rule_table_t]
  simp only [rule_table, rule_table_s0_bind, rule_table_s1_bind, rule_table_s2_bind, rule_table_s3_bind, rule_table_lp0, rule_table_y0_0, rule_table_y0_1, cond_bind, within_bind, none_bind, some_bind, sum_bind, bind_bind, Sum.elim_inl, Sum.elim_inr]
def rule_table_g : Pure := fun R l b K => noBox b (args3 (.sl 51 (.pair .str (.pair .str .unit))) y7 y7 l (fun x0 x1 x2 => (rule_table x0 x1 x2).bind fun r => K [.dat (.int .i64) r []] none))
theorem rule_table_n : rule_table_g.Nat := fun R S l b F G K h => noBox_nat (args3_nat fun _ _ _ => bindr_nat fun _ => h _ _)
def Tb30 : Funs := Tb29.add 43 [(.sl 51 (.pair .str (.pair .str .unit))), y7, y7] rule_table_g
theorem Tb30_nat : Tb30.Nat := add_nat Tb29_nat rule_table_n
theorem Tb30_owes : ∀ f, Owes Tryd.prog Tb30 f := add_owes (E := rule_table_E) (Tab.env_ok tab_ok _ _ _ _) mixed Tb29_nat Tb29_owes (fn := Tryd.f43) (code := rule_table_c) Tryd.func43 (by kernel_rfl) (by kernel_rfl) fun l b r b' h => by
  obtain ⟨rfl, h⟩ := noBox_some h
  obtain ⟨x0, x1, x2, h1, h2⟩ := own3 (E := rule_table_E) rfl h
  exact ⟨FUEL, (h2 _ _ _ _ _ _).trans ((rule_table_eq _ x0 x1 x2 _).trans h1)⟩
noncomputable abbrev rule_Check_c : Code := Tryd.f25.body.getD .skip
def rule_Check_E : Env := tab.env (fun _ => []) (fun _ => []) [] [y9, y13, y13]
theorem rule_Check_t (R : Type) (kk : Nat) (r_0 : Zt18) (a_1 : Zt16) (b_2 : Zt16) (K : List SV → Option Box → Option R) : evFn rule_Check_E (Tb30 R) kk Tryd.f25 rule_Check_c [.dat y9 r_0 [], .dat y13 a_1 [], .dat y13 b_2 []] none K =
  rule_Check_s0 r_0 a_1 b_2 (fun a0 => K [.dat (.int .i64) a0 []] none) := by kernel_rfl
theorem rule_Check_eq (R : Type) (r_0 : Zt18) (a_1 : Zt16) (b_2 : Zt16) (K : List SV → Option Box → Option R) : evFn rule_Check_E (Tb30 R) FUEL Tryd.f25 rule_Check_c [.dat y9 r_0 [], .dat y13 a_1 [], .dat y13 b_2 []] none K = (rule_Check r_0 a_1 b_2).bind fun r => K [.dat (.int .i64) r []] none := by
  rw [rule_Check_t]
  simp only [rule_Check, rule_Check_s0_bind, cond_bind, within_bind, none_bind, some_bind, sum_bind, bind_bind, Sum.elim_inl, Sum.elim_inr]
def rule_Check_g : Pure := fun R l b K => noBox b (args3 y9 y13 y13 l (fun x0 x1 x2 => (rule_Check x0 x1 x2).bind fun r => K [.dat (.int .i64) r []] none))
theorem rule_Check_n : rule_Check_g.Nat := fun R S l b F G K h => noBox_nat (args3_nat fun _ _ _ => bindr_nat fun _ => h _ _)
def Tb31 : Funs := Tb30.add 25 [y9, y13, y13] rule_Check_g
theorem Tb31_nat : Tb31.Nat := add_nat Tb30_nat rule_Check_n
theorem Tb31_owes : ∀ f, Owes Tryd.prog Tb31 f := add_owes (E := rule_Check_E) (Tab.env_ok tab_ok _ _ _ _) mixed Tb30_nat Tb30_owes (fn := Tryd.f25) (code := rule_Check_c) Tryd.func25 (by kernel_rfl) (by kernel_rfl) fun l b r b' h => by
  obtain ⟨rfl, h⟩ := noBox_some h
  obtain ⟨x0, x1, x2, h1, h2⟩ := own3 (E := rule_Check_E) rfl h
  exact ⟨FUEL, (h2 _ _ _ _ _ _).trans ((rule_Check_eq _ x0 x1 x2 _).trans h1)⟩
noncomputable abbrev fields_bit_c : Code := Tryd.f56.body.getD .skip
def fields_bit_E : Env := tab.env (fun _ => []) (fun _ => []) [2] [(.int .i64)]
theorem fields_bit_t (R : Type) (kk : Nat) (n_0 : Int) (K : List SV → Option Box → Option R) : evFn fields_bit_E (Tb31 R) kk Tryd.f56 fields_bit_c [.dat (.int .i64) n_0 []] none K =
  fields_bit_s0 n_0 (fun a0 => K [.dat (.pair (.int .u64) (.pair (.int .u64) .unit)) a0 []] none) := by kernel_rfl
theorem fields_bit_eq (R : Type) (n_0 : Int) (K : List SV → Option Box → Option R) : evFn fields_bit_E (Tb31 R) FUEL Tryd.f56 fields_bit_c [.dat (.int .i64) n_0 []] none K = (fields_bit n_0).bind fun r => K [.dat (.pair (.int .u64) (.pair (.int .u64) .unit)) r []] none := by
  rw [fields_bit_t]
  simp only [fields_bit, fields_bit_s0_bind, cond_bind, within_bind, none_bind, some_bind, sum_bind, bind_bind, Sum.elim_inl, Sum.elim_inr]
def fields_bit_g : Pure := fun R l b K => noBox b (args1 (.int .i64) l (fun x0 => (fields_bit x0).bind fun r => K [.dat (.pair (.int .u64) (.pair (.int .u64) .unit)) r []] none))
theorem fields_bit_n : fields_bit_g.Nat := fun R S l b F G K h => noBox_nat (args1_nat fun _ => bindr_nat fun _ => h _ _)
def Tb32 : Funs := Tb31.add 56 [(.int .i64)] fields_bit_g
theorem Tb32_nat : Tb32.Nat := add_nat Tb31_nat fields_bit_n
theorem Tb32_owes : ∀ f, Owes Tryd.prog Tb32 f := add_owes (E := fields_bit_E) (Tab.env_ok tab_ok _ _ _ _) mixed Tb31_nat Tb31_owes (fn := Tryd.f56) (code := fields_bit_c) Tryd.func56 (by kernel_rfl) (by kernel_rfl) fun l b r b' h => by
  obtain ⟨rfl, h⟩ := noBox_some h
  obtain ⟨x0, h1, h2⟩ := own1 (E := fields_bit_E) rfl h
  exact ⟨FUEL, (h2 _ _ _ _ _ _).trans ((fields_bit_eq _ x0 _).trans h1)⟩
noncomputable abbrev fields_Set_Either_c : Code := Tryd.f28.body.getD .skip
def fields_Set_Either_E : Env := tab.env (fun _ => []) (fun _ => []) [4] [(.pair (.int .u64) (.pair (.int .u64) .unit)), (.pair (.int .u64) (.pair (.int .u64) .unit))]
theorem fields_Set_Either_t (R : Type) (kk : Nat) (s_0 : Zt4) (t_1 : Zt4) (K : List SV → Option Box → Option R) : evFn fields_Set_Either_E (Tb32 R) kk Tryd.f28 fields_Set_Either_c [.dat (.pair (.int .u64) (.pair (.int .u64) .unit)) s_0 [], .dat (.pair (.int .u64) (.pair (.int .u64) .unit)) t_1 []] none K =
  fields_Set_Either_s0 s_0 t_1 (fun a0 => K [.dat (.pair (.int .u64) (.pair (.int .u64) .unit)) a0 []] none) := by kernel_rfl
theorem fields_Set_Either_eq (R : Type) (s_0 : Zt4) (t_1 : Zt4) (K : List SV → Option Box → Option R) : evFn fields_Set_Either_E (Tb32 R) FUEL Tryd.f28 fields_Set_Either_c [.dat (.pair (.int .u64) (.pair (.int .u64) .unit)) s_0 [], .dat (.pair (.int .u64) (.pair (.int .u64) .unit)) t_1 []] none K = (fields_Set_Either s_0 t_1).bind fun r => K [.dat (.pair (.int .u64) (.pair (.int .u64) .unit)) r []] none := by
  rw [fields_Set_Either_t]
  simp only [fields_Set_Either, fields_Set_Either_s0_bind, cond_bind, within_bind, none_bind, some_bind, sum_bind, bind_bind, Sum.elim_inl, Sum.elim_inr]
def fields_Set_Either_g : Pure := fun R l b K => noBox b (args2 (.pair (.int .u64) (.pair (.int .u64) .unit)) (.pair (.int .u64) (.pair (.int .u64) .unit)) l (fun x0 x1 => (fields_Set_Either x0 x1).bind fun r => K [.dat (.pair (.int .u64) (.pair (.int .u64) .unit)) r []] none))
theorem fields_Set_Either_n : fields_Set_Either_g.Nat := fun R S l b F G K h => noBox_nat (args2_nat fun _ _ => bindr_nat fun _ => h _ _)
def Tb33 : Funs := Tb32.add 28 [(.pair (.int .u64) (.pair (.int .u64) .unit)), (.pair (.int .u64) (.pair (.int .u64) .unit))] fields_Set_Either_g
theorem Tb33_nat : Tb33.Nat := add_nat Tb32_nat fields_Set_Either_n
theorem Tb33_owes : ∀ f, Owes Tryd.prog Tb33 f := add_owes (E := fields_Set_Either_E) (Tab.env_ok tab_ok _ _ _ _) mixed Tb32_nat Tb32_owes (fn := Tryd.f28) (code := fields_Set_Either_c) Tryd.func28 (by kernel_rfl) (by kernel_rfl) fun l b r b' h => by
  obtain ⟨rfl, h⟩ := noBox_some h
  obtain ⟨x0, x1, h1, h2⟩ := own2 (E := fields_Set_Either_E) rfl h
  exact ⟨FUEL, (h2 _ _ _ _ _ _).trans ((fields_Set_Either_eq _ x0 x1 _).trans h1)⟩
noncomputable abbrev fields_Set_With_c : Code := Tryd.f44.body.getD .skip
def fields_Set_With_E : Env := tab.env (fun _ => []) (fun _ => []) [4] [(.pair (.int .u64) (.pair (.int .u64) .unit)), (.int .i64)]
theorem fields_Set_With_t (R : Type) (kk : Nat) (s_0 : Zt4) (n_1 : Int) (K : List SV → Option Box → Option R) : evFn fields_Set_With_E (Tb33 R) kk Tryd.f44 fields_Set_With_c [.dat (.pair (.int .u64) (.pair (.int .u64) .unit)) s_0 [], .dat (.int .i64) n_1 []] none K =
  fields_Set_With_s0 s_0 n_1 (fun a0 => K [.dat (.pair (.int .u64) (.pair (.int .u64) .unit)) a0 []] none) := by kernel_rfl
theorem fields_Set_With_eq (R : Type) (s_0 : Zt4) (n_1 : Int) (K : List SV → Option Box → Option R) : evFn fields_Set_With_E (Tb33 R) FUEL Tryd.f44 fields_Set_With_c [.dat (.pair (.int .u64) (.pair (.int .u64) .unit)) s_0 [], .dat (.int .i64) n_1 []] none K = (fields_Set_With s_0 n_1).bind fun r => K [.dat (.pair (.int .u64) (.pair (.int .u64) .unit)) r []] none := by
  rw [fields_Set_With_t]
  simp only [fields_Set_With, fields_Set_With_s0_bind, cond_bind, within_bind, none_bind, some_bind, sum_bind, bind_bind, Sum.elim_inl, Sum.elim_inr]
def fields_Set_With_g : Pure := fun R l b K => noBox b (args2 (.pair (.int .u64) (.pair (.int .u64) .unit)) (.int .i64) l (fun x0 x1 => (fields_Set_With x0 x1).bind fun r => K [.dat (.pair (.int .u64) (.pair (.int .u64) .unit)) r []] none))
theorem fields_Set_With_n : fields_Set_With_g.Nat := fun R S l b F G K h => noBox_nat (args2_nat fun _ _ => bindr_nat fun _ => h _ _)
def Tb34 : Funs := Tb33.add 44 [(.pair (.int .u64) (.pair (.int .u64) .unit)), (.int .i64)] fields_Set_With_g
theorem Tb34_nat : Tb34.Nat := add_nat Tb33_nat fields_Set_With_n
theorem Tb34_owes : ∀ f, Owes Tryd.prog Tb34 f := add_owes (E := fields_Set_With_E) (Tab.env_ok tab_ok _ _ _ _) mixed Tb33_nat Tb33_owes (fn := Tryd.f44) (code := fields_Set_With_c) Tryd.func44 (by kernel_rfl) (by kernel_rfl) fun l b r b' h => by
  obtain ⟨rfl, h⟩ := noBox_some h
  obtain ⟨x0, x1, h1, h2⟩ := own2 (E := fields_Set_With_E) rfl h
  exact ⟨FUEL, (h2 _ _ _ _ _ _).trans ((fields_Set_With_eq _ x0 x1 _).trans h1)⟩
noncomputable abbrev fields_Of_c : Code := Tryd.f26.body.getD .skip
def fields_Of_E : Env := tab.env (fun i => bif Nat.beq i 3 then [2, 3, 6, 7, 8] else []) (fun i => bif Nat.beq i 3 then [2, 3] else []) [2] [(.sl 3 (.int .i64))]
def fields_Of_h0 (t6 : (List Int)) (t7 : Int) (t8 : Int) (bt2 : Zt4) (bt3 : Zt4) : State := ⟨[U_, U_, [.ptr 3 (.pair (.int .u64) (.pair (.int .u64) .unit)) []], [.ptr 4 (.pair (.int .u64) (.pair (.int .u64) .unit)) []], U_, U_, [.dat (.sl 3 (.int .i64)) t6 []], [.dat (.int .i64) t7 []], [.dat (.int .i64) t8 []], U_, U_, U_, U_, U_, U_, U_, U_], [N_, N_, N_, some ⟨(.pair (.int .u64) (.pair (.int .u64) .unit)), bt2, []⟩, some ⟨(.pair (.int .u64) (.pair (.int .u64) .unit)), bt3, []⟩, N_, N_, N_, N_, N_, N_, N_, N_, N_, N_, N_, N_, N_]⟩
def fields_Of_x0_0 (bt2 : Zt4) (bt3 : Zt4) : State := ⟨[U_, U_, [.ptr 3 (.pair (.int .u64) (.pair (.int .u64) .unit)) []], [.ptr 4 (.pair (.int .u64) (.pair (.int .u64) .unit)) []], U_, U_, U_, U_, U_, U_, U_, U_, U_, U_, U_, U_, U_], [N_, N_, N_, some ⟨(.pair (.int .u64) (.pair (.int .u64) .unit)), bt2, []⟩, some ⟨(.pair (.int .u64) (.pair (.int .u64) .unit)), bt3, []⟩, N_, N_, N_, N_, N_, N_, N_, N_, N_, N_, N_, N_, N_]⟩
theorem fields_Of_t (R : Type) (kk : Nat) (n_0 : (List Int)) (K : List SV → Option Box → Option R) : evFn fields_Of_E (Tb34 R) kk Tryd.f26 fields_Of_c [.dat (.sl 3 (.int .i64)) n_0 []] none K =
  fields_Of_s0 n_0 (fun a0 a1 a2 a3 a4 => loopR (ev fields_Of_E (Tb34 R) kk (sub [1, 1, 0, 1, 0, 0] fields_Of_c)) [2, 3, 6, 7, 8] [2, 3] kk (fields_Of_h0 a0 a1 a2 a3 a4) (kBlock 0 (kSeq fields_Of_E (Tb34 R) kk (sub [1, 1, 1] fields_Of_c) (kFin fields_Of_E Tryd.f26.results.toList none K)))) := by kernel_rfl
theorem fields_Of_d0 (R : Type) (kk k : Nat) (t6 : (List Int)) (t7 : Int) (t8 : Int) (bt2 : Zt4) (bt3 : Zt4) (K : Ex → State → Option R) : loopR (ev fields_Of_E (Tb34 R) kk (sub [1, 1, 0, 1, 0, 0] fields_Of_c)) [2, 3, 6, 7, 8] [2, 3] (k + 1) (fields_Of_h0 t6 t7 t8 bt2 bt3) K =
  fields_Of_s1 t6 t7 t8 bt2 bt3 (fun a0 a1 a2 a3 a4 => loopR (ev fields_Of_E (Tb34 R) kk (sub [1, 1, 0, 1, 0, 0] fields_Of_c)) [2, 3, 6, 7, 8] [2, 3] k (fields_Of_h0 a0 a1 a2 a3 a4) K) (fun a0 a1 => K (.exit 0) (fields_Of_x0_0 a0 a1)) := by kernel_rfl
theorem fields_Of_y0_0 (R : Type) (kk : Nat) (bt2 : Zt4) (bt3 : Zt4) (K : List SV → Option Box → Option R) : (kBlock 0 (kSeq fields_Of_E (Tb34 R) kk (sub [1, 1, 1] fields_Of_c) (kFin fields_Of_E Tryd.f26.results.toList none K))) (.exit 0) (fields_Of_x0_0 bt2 bt3) =
  fields_Of_s2 bt2 bt3 (fun a0 => K [.dat (.pair (.int .u64) (.pair (.int .u64) .unit)) a0 []] none) := by kernel_rfl
theorem fields_Of_lp0 (R : Type) (k : Nat) (t6 : (List Int)) (t7 : Int) (t8 : Int) (bt2 : Zt4) (bt3 : Zt4) (K : Ex → State → Option R) : loopR (ev fields_Of_E (Tb34 R) FUEL (sub [1, 1, 0, 1, 0, 0] fields_Of_c)) [2, 3, 6, 7, 8] [2, 3] k (fields_Of_h0 t6 t7 t8 bt2 bt3) K = (fields_Of_l0 k t6 t7 t8 bt2 bt3).bind fun e => K (.exit 0) (fields_Of_x0_0 e.1 e.2) := by
  induction k generalizing t6 t7 t8 bt2 bt3 with
  | zero => rfl
  | succ k ih =>
    rw [fields_Of_d0]
    simp only [fields_Of_l0, fields_Of_s0_bind, fields_Of_s1_bind, fields_Of_s2_bind, ih, cond_bind, within_bind, none_bind, some_bind, sum_bind, bind_bind, Sum.elim_inl, Sum.elim_inr]
theorem fields_Of_eq (R : Type) (n_0 : (List Int)) (K : List SV → Option Box → Option R) : evFn fields_Of_E (Tb34 R) FUEL Tryd.f26 fields_Of_c [.dat (.sl 3 (.int .i64)) n_0 []] none K = (fields_Of n_0).bind fun r => K [.dat (.pair (.int .u64) (.pair (.int .u64) .unit)) r []] none := by
  rw [fields_Of_t]
  simp only [fields_Of, fields_Of_s0_bind, fields_Of_s1_bind, fields_Of_s2_bind, fields_Of_lp0, fields_Of_y0_0, cond_bind, within_bind, none_bind, some_bind, sum_bind, bind_bind, Sum.elim_inl, Sum.elim_inr]
def fields_Of_g : Pure := fun R l b K => noBox b (args1 (.sl 3 (.int .i64)) l (fun x0 => (fields_Of x0).bind fun r => K [.dat (.pair (.int .u64) (.pair (.int .u64) .unit)) r []] none))
theorem fields_Of_n : fields_Of_g.Nat := fun R S l b F G K h => noBox_nat (args1_nat fun _ => bindr_nat fun _ => h _ _)
def Tb35 : Funs := Tb34.add 26 [(.sl 3 (.int .i64))] fields_Of_g
theorem Tb35_nat : Tb35.Nat := add_nat Tb34_nat fields_Of_n
theorem Tb35_owes : ∀ f, Owes Tryd.prog Tb35 f := add_owes (E := fields_Of_E) (Tab.env_ok tab_ok _ _ _ _) mixed Tb34_nat Tb34_owes (fn := Tryd.f26) (code := fields_Of_c) Tryd.func26 (by kernel_rfl) (by kernel_rfl) fun l b r b' h => by
  obtain ⟨rfl, h⟩ := noBox_some h
  obtain ⟨x0, h1, h2⟩ := own1 (E := fields_Of_E) rfl h
  exact ⟨FUEL, (h2 _ _ _ _ _ _).trans ((fields_Of_eq _ x0 _).trans h1)⟩
noncomputable abbrev fields_Set_Both_c : Code := Tryd.f27.body.getD .skip
def fields_Set_Both_E : Env := tab.env (fun _ => []) (fun _ => []) [4] [(.pair (.int .u64) (.pair (.int .u64) .unit)), (.pair (.int .u64) (.pair (.int .u64) .unit))]
theorem fields_Set_Both_t (R : Type) (kk : Nat) (s_0 : Zt4) (t_1 : Zt4) (K : List SV → Option Box → Option R) : evFn fields_Set_Both_E (Tb35 R) kk Tryd.f27 fields_Set_Both_c [.dat (.pair (.int .u64) (.pair (.int .u64) .unit)) s_0 [], .dat (.pair (.int .u64) (.pair (.int .u64) .unit)) t_1 []] none K =
  fields_Set_Both_s0 s_0 t_1 (fun a0 => K [.dat (.pair (.int .u64) (.pair (.int .u64) .unit)) a0 []] none) := by kernel_rfl
theorem fields_Set_Both_eq (R : Type) (s_0 : Zt4) (t_1 : Zt4) (K : List SV → Option Box → Option R) : evFn fields_Set_Both_E (Tb35 R) FUEL Tryd.f27 fields_Set_Both_c [.dat (.pair (.int .u64) (.pair (.int .u64) .unit)) s_0 [], .dat (.pair (.int .u64) (.pair (.int .u64) .unit)) t_1 []] none K = (fields_Set_Both s_0 t_1).bind fun r => K [.dat (.pair (.int .u64) (.pair (.int .u64) .unit)) r []] none := by
  rw [fields_Set_Both_t]
  simp only [fields_Set_Both, fields_Set_Both_s0_bind, cond_bind, within_bind, none_bind, some_bind, sum_bind, bind_bind, Sum.elim_inl, Sum.elim_inr]
def fields_Set_Both_g : Pure := fun R l b K => noBox b (args2 (.pair (.int .u64) (.pair (.int .u64) .unit)) (.pair (.int .u64) (.pair (.int .u64) .unit)) l (fun x0 x1 => (fields_Set_Both x0 x1).bind fun r => K [.dat (.pair (.int .u64) (.pair (.int .u64) .unit)) r []] none))
theorem fields_Set_Both_n : fields_Set_Both_g.Nat := fun R S l b F G K h => noBox_nat (args2_nat fun _ _ => bindr_nat fun _ => h _ _)
def Tb36 : Funs := Tb35.add 27 [(.pair (.int .u64) (.pair (.int .u64) .unit)), (.pair (.int .u64) (.pair (.int .u64) .unit))] fields_Set_Both_g
theorem Tb36_nat : Tb36.Nat := add_nat Tb35_nat fields_Set_Both_n
theorem Tb36_owes : ∀ f, Owes Tryd.prog Tb36 f := add_owes (E := fields_Set_Both_E) (Tab.env_ok tab_ok _ _ _ _) mixed Tb35_nat Tb35_owes (fn := Tryd.f27) (code := fields_Set_Both_c) Tryd.func27 (by kernel_rfl) (by kernel_rfl) fun l b r b' h => by
  obtain ⟨rfl, h⟩ := noBox_some h
  obtain ⟨x0, x1, h1, h2⟩ := own2 (E := fields_Set_Both_E) rfl h
  exact ⟨FUEL, (h2 _ _ _ _ _ _).trans ((fields_Set_Both_eq _ x0 x1 _).trans h1)⟩
noncomputable abbrev xlate_Check_c : Code := Tryd.f13.body.getD .skip
def xlate_Check_E : Env := tab.env (fun i => bif Nat.beq i 2 then [3, 4, 5, 26, 27, 28] else bif Nat.beq i 12 then [3, 4, 5, 13, 46, 48, 49, 50] else bif Nat.beq i 24 then [4, 5, 16, 17, 77, 78, 79] else []) (fun i => bif Nat.beq i 2 then [3, 4, 5, 6, 7, 8] else bif Nat.beq i 12 then [3, 4, 5, 6, 7, 8] else bif Nat.beq i 24 then [6, 7, 8] else []) [] [y14, y13, y13]
def xlate_Check_h0 (t26 : Zt17) (t27 : Int) (t28 : Int) (bt3 : Zt22) (bt4 : Zt16) (bt5 : Zt16) : State := ⟨[U_, U_, U_, [.ptr 4 y14 []], [.ptr 5 y13 []], [.ptr 6 y13 []], U_, U_, U_, U_, U_, U_, U_, U_, U_, U_, U_, U_, U_, U_, U_, U_, U_, U_, U_, U_, [.dat (.sl 28 y13) t26 [[]]], [.dat (.int .i64) t27 []], [.dat (.int .i64) t28 []], U_, U_, U_, U_, U_, U_, U_, U_, U_, U_, U_, U_, U_, U_, U_, U_, U_, U_, U_, U_, U_, U_, U_, U_, U_, U_, U_, U_, U_, U_, U_, U_, U_, U_, U_, U_, U_, U_, U_, U_, U_, U_, U_, U_, U_, U_, U_, U_, U_, U_, U_, U_, U_, U_, U_, U_, U_, U_, U_, U_, U_, U_, U_, U_, U_, U_, U_, U_, U_, U_, U_, U_, U_, U_, U_, U_, U_, U_, U_, U_, U_, U_, U_, U_, U_, U_, U_, U_, U_, U_, U_, U_], [N_, N_, N_, N_, some ⟨y14, bt3, []⟩, some ⟨y13, bt4, []⟩, some ⟨y13, bt5, []⟩, N_, N_, N_, N_, N_, N_, N_, N_, N_, N_, N_, N_, N_, N_, N_, N_, N_, N_, N_, N_, N_, N_, N_, N_, N_, N_, N_, N_, N_, N_, N_, N_, N_, N_, N_, N_, N_, N_, N_, N_, N_, N_, N_, N_, N_, N_, N_, N_, N_, N_, N_, N_, N_, N_, N_, N_, N_, N_, N_, N_, N_, N_, N_, N_, N_, N_, N_, N_, N_, N_, N_, N_, N_, N_, N_, N_, N_, N_, N_, N_, N_, N_, N_, N_, N_, N_, N_, N_, N_, N_, N_, N_, N_, N_, N_, N_, N_, N_, N_, N_, N_, N_, N_, N_, N_, N_, N_, N_, N_, N_, N_, N_, N_, N_, N_]⟩
def xlate_Check_x0_0 (t6 : Int) (t7 : Int) (t8 : Int) (bt3 : Zt22) (bt4 : Zt16) (bt5 : Zt16) : State := ⟨[U_, U_, U_, [.ptr 4 y14 []], [.ptr 5 y13 []], [.ptr 6 y13 []], [.dat (.int .i64) t6 []], [.dat (.int .i64) t7 []], [.dat (.int .i64) t8 []], U_, U_, U_, U_, U_, U_, U_, U_, U_, U_, U_, U_, U_, U_, U_, U_, U_, U_, U_, U_, U_, U_, U_, U_, U_, U_, U_, U_, U_, U_, U_, U_, U_, U_, U_, U_, U_, U_, U_, U_, U_, U_, U_, U_, U_, U_, U_, U_, U_, U_, U_, U_, U_, U_, U_, U_, U_, U_, U_, U_, U_, U_, U_, U_, U_, U_, U_, U_, U_, U_, U_, U_, U_, U_, U_, U_, U_, U_, U_, U_, U_, U_, U_, U_, U_, U_, U_, U_, U_, U_, U_, U_, U_, U_, U_, U_, U_, U_, U_, U_, U_, U_, U_, U_, U_, U_, U_, U_, U_, U_, U_, U_], [N_, N_, N_, N_, some ⟨y14, bt3, []⟩, some ⟨y13, bt4, []⟩, some ⟨y13, bt5, []⟩, N_, N_, N_, N_, N_, N_, N_, N_, N_, N_, N_, N_, N_, N_, N_, N_, N_, N_, N_, N_, N_, N_, N_, N_, N_, N_, N_, N_, N_, N_, N_, N_, N_, N_, N_, N_, N_, N_, N_, N_, N_, N_, N_, N_, N_, N_, N_, N_, N_, N_, N_, N_, N_, N_, N_, N_, N_, N_, N_, N_, N_, N_, N_, N_, N_, N_, N_, N_, N_, N_, N_, N_, N_, N_, N_, N_, N_, N_, N_, N_, N_, N_, N_, N_, N_, N_, N_, N_, N_, N_, N_, N_, N_, N_, N_, N_, N_, N_, N_, N_, N_, N_, N_, N_, N_, N_, N_, N_, N_, N_, N_, N_, N_, N_, N_]⟩
def xlate_Check_x0_1 (bt3 : Zt22) (bt4 : Zt16) (bt5 : Zt16) : State := ⟨[U_, U_, U_, [.ptr 4 y14 []], [.ptr 5 y13 []], [.ptr 6 y13 []], U_, U_, U_, U_, U_, U_, U_, U_, U_, U_, U_, U_, U_, U_, U_, U_, U_, U_, U_, U_, U_, U_, U_, U_, U_, U_, U_, U_, U_, U_, U_, U_, U_, U_, U_, U_, U_, U_, U_, U_, U_, U_, U_, U_, U_, U_, U_, U_, U_, U_, U_, U_, U_, U_, U_, U_, U_, U_, U_, U_, U_, U_, U_, U_, U_, U_, U_, U_, U_, U_, U_, U_, U_, U_, U_, U_, U_, U_, U_, U_, U_, U_, U_, U_, U_, U_, U_, U_, U_, U_, U_, U_, U_, U_, U_, U_, U_, U_, U_, U_, U_, U_, U_, U_, U_, U_, U_, U_, U_, U_, U_, U_, U_, U_, U_], [N_, N_, N_, N_, some ⟨y14, bt3, []⟩, some ⟨y13, bt4, []⟩, some ⟨y13, bt5, []⟩, N_, N_, N_, N_, N_, N_, N_, N_, N_, N_, N_, N_, N_, N_, N_, N_, N_, N_, N_, N_, N_, N_, N_, N_, N_, N_, N_, N_, N_, N_, N_, N_, N_, N_, N_, N_, N_, N_, N_, N_, N_, N_, N_, N_, N_, N_, N_, N_, N_, N_, N_, N_, N_, N_, N_, N_, N_, N_, N_, N_, N_, N_, N_, N_, N_, N_, N_, N_, N_, N_, N_, N_, N_, N_, N_, N_, N_, N_, N_, N_, N_, N_, N_, N_, N_, N_, N_, N_, N_, N_, N_, N_, N_, N_, N_, N_, N_, N_, N_, N_, N_, N_, N_, N_, N_, N_, N_, N_, N_, N_, N_, N_, N_, N_, N_]⟩
def xlate_Check_h1 (t48 : Zt12) (t49 : Int) (t50 : Int) (bt3 : Zt22) (bt4 : Zt16) (bt5 : Zt16) (bt13 : Zt7) : State := ⟨[U_, U_, U_, [.ptr 4 y14 []], [.ptr 5 y13 []], [.ptr 6 y13 []], U_, U_, U_, U_, U_, U_, U_, [.ptr 47 (.spc .mp .str .bool) []], U_, U_, U_, U_, U_, U_, U_, U_, U_, U_, U_, U_, U_, U_, U_, U_, U_, U_, U_, U_, U_, U_, U_, U_, U_, U_, U_, U_, U_, U_, U_, U_, [.ptr 47 (.spc .mp .str .bool) []], U_, [.dat (.sl 51 (.pair .str (.pair .str .unit))) t48 []], [.dat (.int .i64) t49 []], [.dat (.int .i64) t50 []], U_, U_, U_, U_, U_, U_, U_, U_, U_, U_, U_, U_, U_, U_, U_, U_, U_, U_, U_, U_, U_, U_, U_, U_, U_, U_, U_, U_, U_, U_, U_, U_, U_, U_, U_, U_, U_, U_, U_, U_, U_, U_, U_, U_, U_, U_, U_, U_, U_, U_, U_, U_, U_, U_, U_, U_, U_, U_, U_, U_, U_, U_, U_, U_, U_, U_, U_, U_, U_, U_], [N_, N_, N_, N_, some ⟨y14, bt3, []⟩, some ⟨y13, bt4, []⟩, some ⟨y13, bt5, []⟩, N_, N_, N_, N_, N_, N_, N_, N_, N_, N_, N_, N_, N_, N_, N_, N_, N_, N_, N_, N_, N_, N_, N_, N_, N_, N_, N_, N_, N_, N_, N_, N_, N_, N_, N_, N_, N_, N_, N_, N_, some ⟨(.spc .mp .str .bool), bt13, []⟩, N_, N_, N_, N_, N_, N_, N_, N_, N_, N_, N_, N_, N_, N_, N_, N_, N_, N_, N_, N_, N_, N_, N_, N_, N_, N_, N_, N_, N_, N_, N_, N_, N_, N_, N_, N_, N_, N_, N_, N_, N_, N_, N_, N_, N_, N_, N_, N_, N_, N_, N_, N_, N_, N_, N_, N_, N_, N_, N_, N_, N_, N_, N_, N_, N_, N_, N_, N_, N_, N_, N_, N_, N_, N_]⟩
def xlate_Check_x1_0 (t6 : Int) (t7 : Int) (t8 : Int) (bt3 : Zt22) (bt4 : Zt16) (bt5 : Zt16) : State := ⟨[U_, U_, U_, [.ptr 4 y14 []], [.ptr 5 y13 []], [.ptr 6 y13 []], [.dat (.int .i64) t6 []], [.dat (.int .i64) t7 []], [.dat (.int .i64) t8 []], U_, U_, U_, U_, U_, U_, U_, U_, U_, U_, U_, U_, U_, U_, U_, U_, U_, U_, U_, U_, U_, U_, U_, U_, U_, U_, U_, U_, U_, U_, U_, U_, U_, U_, U_, U_, U_, U_, U_, U_, U_, U_, U_, U_, U_, U_, U_, U_, U_, U_, U_, U_, U_, U_, U_, U_, U_, U_, U_, U_, U_, U_, U_, U_, U_, U_, U_, U_, U_, U_, U_, U_, U_, U_, U_, U_, U_, U_, U_, U_, U_, U_, U_, U_, U_, U_, U_, U_, U_, U_, U_, U_, U_, U_, U_, U_, U_, U_, U_, U_, U_, U_, U_, U_, U_, U_, U_, U_, U_, U_, U_, U_], [N_, N_, N_, N_, some ⟨y14, bt3, []⟩, some ⟨y13, bt4, []⟩, some ⟨y13, bt5, []⟩, N_, N_, N_, N_, N_, N_, N_, N_, N_, N_, N_, N_, N_, N_, N_, N_, N_, N_, N_, N_, N_, N_, N_, N_, N_, N_, N_, N_, N_, N_, N_, N_, N_, N_, N_, N_, N_, N_, N_, N_, N_, N_, N_, N_, N_, N_, N_, N_, N_, N_, N_, N_, N_, N_, N_, N_, N_, N_, N_, N_, N_, N_, N_, N_, N_, N_, N_, N_, N_, N_, N_, N_, N_, N_, N_, N_, N_, N_, N_, N_, N_, N_, N_, N_, N_, N_, N_, N_, N_, N_, N_, N_, N_, N_, N_, N_, N_, N_, N_, N_, N_, N_, N_, N_, N_, N_, N_, N_, N_, N_, N_, N_, N_, N_, N_]⟩
def xlate_Check_x1_1 (bt3 : Zt22) (bt4 : Zt16) (bt5 : Zt16) : State := ⟨[U_, U_, U_, [.ptr 4 y14 []], [.ptr 5 y13 []], [.ptr 6 y13 []], U_, U_, U_, U_, U_, U_, U_, U_, U_, U_, U_, U_, U_, U_, U_, U_, U_, U_, U_, U_, U_, U_, U_, U_, U_, U_, U_, U_, U_, U_, U_, U_, U_, U_, U_, U_, U_, U_, U_, U_, U_, U_, U_, U_, U_, U_, U_, U_, U_, U_, U_, U_, U_, U_, U_, U_, U_, U_, U_, U_, U_, U_, U_, U_, U_, U_, U_, U_, U_, U_, U_, U_, U_, U_, U_, U_, U_, U_, U_, U_, U_, U_, U_, U_, U_, U_, U_, U_, U_, U_, U_, U_, U_, U_, U_, U_, U_, U_, U_, U_, U_, U_, U_, U_, U_, U_, U_, U_, U_, U_, U_, U_, U_, U_, U_], [N_, N_, N_, N_, some ⟨y14, bt3, []⟩, some ⟨y13, bt4, []⟩, some ⟨y13, bt5, []⟩, N_, N_, N_, N_, N_, N_, N_, N_, N_, N_, N_, N_, N_, N_, N_, N_, N_, N_, N_, N_, N_, N_, N_, N_, N_, N_, N_, N_, N_, N_, N_, N_, N_, N_, N_, N_, N_, N_, N_, N_, N_, N_, N_, N_, N_, N_, N_, N_, N_, N_, N_, N_, N_, N_, N_, N_, N_, N_, N_, N_, N_, N_, N_, N_, N_, N_, N_, N_, N_, N_, N_, N_, N_, N_, N_, N_, N_, N_, N_, N_, N_, N_, N_, N_, N_, N_, N_, N_, N_, N_, N_, N_, N_, N_, N_, N_, N_, N_, N_, N_, N_, N_, N_, N_, N_, N_, N_, N_, N_, N_, N_, N_, N_, N_, N_]⟩
def xlate_Check_h2 (t77 : Zt20) (t78 : Int) (t79 : Int) (bt4 : Zt16) (bt5 : Zt16) (bt16 : Zt4) (bt17 : Zt4) : State := ⟨[U_, U_, U_, U_, [.ptr 5 y13 []], [.ptr 6 y13 []], U_, U_, U_, U_, U_, U_, U_, U_, U_, U_, [.ptr 17 (.pair (.int .u64) (.pair (.int .u64) .unit)) []], [.ptr 18 (.pair (.int .u64) (.pair (.int .u64) .unit)) []], U_, U_, U_, U_, U_, U_, U_, U_, U_, U_, U_, U_, U_, U_, U_, U_, U_, U_, U_, U_, U_, U_, U_, U_, U_, U_, U_, U_, U_, U_, U_, U_, U_, U_, U_, U_, U_, U_, U_, U_, U_, U_, U_, U_, U_, U_, U_, U_, U_, U_, U_, U_, U_, U_, U_, U_, U_, U_, U_, [.dat (.sl 48 y9) t77 []], [.dat (.int .i64) t78 []], [.dat (.int .i64) t79 []], U_, U_, U_, U_, U_, U_, U_, U_, U_, U_, U_, U_, U_, U_, U_, U_, U_, U_, U_, U_, U_, U_, U_, U_, U_, U_, U_, U_, U_, U_, U_, U_, U_, U_, U_, U_, U_, U_, U_, U_, U_], [N_, N_, N_, N_, N_, some ⟨y13, bt4, []⟩, some ⟨y13, bt5, []⟩, N_, N_, N_, N_, N_, N_, N_, N_, N_, N_, some ⟨(.pair (.int .u64) (.pair (.int .u64) .unit)), bt16, []⟩, some ⟨(.pair (.int .u64) (.pair (.int .u64) .unit)), bt17, []⟩, N_, N_, N_, N_, N_, N_, N_, N_, N_, N_, N_, N_, N_, N_, N_, N_, N_, N_, N_, N_, N_, N_, N_, N_, N_, N_, N_, N_, N_, N_, N_, N_, N_, N_, N_, N_, N_, N_, N_, N_, N_, N_, N_, N_, N_, N_, N_, N_, N_, N_, N_, N_, N_, N_, N_, N_, N_, N_, N_, N_, N_, N_, N_, N_, N_, N_, N_, N_, N_, N_, N_, N_, N_, N_, N_, N_, N_, N_, N_, N_, N_, N_, N_, N_, N_, N_, N_, N_, N_, N_, N_, N_, N_, N_, N_, N_, N_, N_, N_, N_, N_, N_, N_]⟩
def xlate_Check_x2_0 (t6 : Int) (t7 : Int) (t8 : Int) : State := ⟨[U_, U_, U_, U_, U_, U_, [.dat (.int .i64) t6 []], [.dat (.int .i64) t7 []], [.dat (.int .i64) t8 []], U_, U_, U_, U_, U_, U_, U_, U_, U_, U_, U_, U_, U_, U_, U_, U_, U_, U_, U_, U_, U_, U_, U_, U_, U_, U_, U_, U_, U_, U_, U_, U_, U_, U_, U_, U_, U_, U_, U_, U_, U_, U_, U_, U_, U_, U_, U_, U_, U_, U_, U_, U_, U_, U_, U_, U_, U_, U_, U_, U_, U_, U_, U_, U_, U_, U_, U_, U_, U_, U_, U_, U_, U_, U_, U_, U_, U_, U_, U_, U_, U_, U_, U_, U_, U_, U_, U_, U_, U_, U_, U_, U_, U_, U_, U_, U_, U_, U_, U_, U_, U_, U_, U_, U_, U_, U_, U_, U_, U_, U_, U_, U_], [N_, N_, N_, N_, N_, N_, N_, N_, N_, N_, N_, N_, N_, N_, N_, N_, N_, N_, N_, N_, N_, N_, N_, N_, N_, N_, N_, N_, N_, N_, N_, N_, N_, N_, N_, N_, N_, N_, N_, N_, N_, N_, N_, N_, N_, N_, N_, N_, N_, N_, N_, N_, N_, N_, N_, N_, N_, N_, N_, N_, N_, N_, N_, N_, N_, N_, N_, N_, N_, N_, N_, N_, N_, N_, N_, N_, N_, N_, N_, N_, N_, N_, N_, N_, N_, N_, N_, N_, N_, N_, N_, N_, N_, N_, N_, N_, N_, N_, N_, N_, N_, N_, N_, N_, N_, N_, N_, N_, N_, N_, N_, N_, N_, N_, N_, N_, N_, N_, N_, N_, N_, N_]⟩
def xlate_Check_x2_1  : State := ⟨[U_, U_, U_, U_, U_, U_, U_, U_, U_, U_, U_, U_, U_, U_, U_, U_, U_, U_, U_, U_, U_, U_, U_, U_, U_, U_, U_, U_, U_, U_, U_, U_, U_, U_, U_, U_, U_, U_, U_, U_, U_, U_, U_, U_, U_, U_, U_, U_, U_, U_, U_, U_, U_, U_, U_, U_, U_, U_, U_, U_, U_, U_, U_, U_, U_, U_, U_, U_, U_, U_, U_, U_, U_, U_, U_, U_, U_, U_, U_, U_, U_, U_, U_, U_, U_, U_, U_, U_, U_, U_, U_, U_, U_, U_, U_, U_, U_, U_, U_, U_, U_, U_, U_, U_, U_, U_, U_, U_, U_, U_, U_, U_, U_, U_, U_, U_, U_, U_, U_, U_, U_], [N_, N_, N_, N_, N_, N_, N_, N_, N_, N_, N_, N_, N_, N_, N_, N_, N_, N_, N_, N_, N_, N_, N_, N_, N_, N_, N_, N_, N_, N_, N_, N_, N_, N_, N_, N_, N_, N_, N_, N_, N_, N_, N_, N_, N_, N_, N_, N_, N_, N_, N_, N_, N_, N_, N_, N_, N_, N_, N_, N_, N_, N_, N_, N_, N_, N_, N_, N_, N_, N_, N_, N_, N_, N_, N_, N_, N_, N_, N_, N_, N_, N_, N_, N_, N_, N_, N_, N_, N_, N_, N_, N_, N_, N_, N_, N_, N_, N_, N_, N_, N_, N_, N_, N_, N_, N_, N_, N_, N_, N_, N_, N_, N_, N_, N_, N_, N_, N_, N_, N_, N_, N_]⟩
theorem xlate_Check_t (R : Type) (kk : Nat) (m_0 : Zt22) (a_1 : Zt16) (b_2 : Zt16) (K : List SV → Option Box → Option R) : evFn xlate_Check_E (Tb36 R) kk Tryd.f13 xlate_Check_c [.dat y14 m_0 [], .dat y13 a_1 [], .dat y13 b_2 []] none K =
  xlate_Check_s0 m_0 a_1 b_2 (fun a0 a1 a2 a3 a4 a5 => loopR (ev xlate_Check_E (Tb36 R) kk (sub [1, 0, 1, 0, 0] xlate_Check_c)) [3, 4, 5, 26, 27, 28] [3, 4, 5, 6, 7, 8] kk (xlate_Check_h0 a0 a1 a2 a3 a4 a5) (kBlock 0 (kSeq xlate_Check_E (Tb36 R) kk (sub [1, 1] xlate_Check_c) (kFin xlate_Check_E Tryd.f13.results.toList none K)))) := by kernel_rfl
theorem xlate_Check_d0 (R : Type) (kk k : Nat) (t26 : Zt17) (t27 : Int) (t28 : Int) (bt3 : Zt22) (bt4 : Zt16) (bt5 : Zt16) (K : Ex → State → Option R) : loopR (ev xlate_Check_E (Tb36 R) kk (sub [1, 0, 1, 0, 0] xlate_Check_c)) [3, 4, 5, 26, 27, 28] [3, 4, 5, 6, 7, 8] (k + 1) (xlate_Check_h0 t26 t27 t28 bt3 bt4 bt5) K =
  xlate_Check_s1 t26 t27 t28 bt3 bt4 bt5 (fun a0 a1 a2 a3 a4 a5 => K .ret (xlate_Check_x0_0 a0 a1 a2 a3 a4 a5)) (fun a0 a1 a2 a3 a4 a5 => loopR (ev xlate_Check_E (Tb36 R) kk (sub [1, 0, 1, 0, 0] xlate_Check_c)) [3, 4, 5, 26, 27, 28] [3, 4, 5, 6, 7, 8] k (xlate_Check_h0 a0 a1 a2 a3 a4 a5) K) (fun a0 a1 a2 => K (.exit 0) (xlate_Check_x0_1 a0 a1 a2)) := by kernel_rfl
theorem xlate_Check_y0_0 (R : Type) (kk : Nat) (t6 : Int) (t7 : Int) (t8 : Int) (bt3 : Zt22) (bt4 : Zt16) (bt5 : Zt16) (K : List SV → Option Box → Option R) : (kBlock 0 (kSeq xlate_Check_E (Tb36 R) kk (sub [1, 1] xlate_Check_c) (kFin xlate_Check_E Tryd.f13.results.toList none K))) .ret (xlate_Check_x0_0 t6 t7 t8 bt3 bt4 bt5) =
  xlate_Check_s2 t6 t7 t8 bt3 bt4 bt5 (fun a0 a1 a2 => K [.dat (.int .i64) a0 [], .dat (.int .i64) a1 [], .dat (.int .i64) a2 []] none) := by kernel_rfl
theorem xlate_Check_y0_1 (R : Type) (kk : Nat) (bt3 : Zt22) (bt4 : Zt16) (bt5 : Zt16) (K : List SV → Option Box → Option R) : (kBlock 0 (kSeq xlate_Check_E (Tb36 R) kk (sub [1, 1] xlate_Check_c) (kFin xlate_Check_E Tryd.f13.results.toList none K))) (.exit 0) (xlate_Check_x0_1 bt3 bt4 bt5) =
  xlate_Check_s3 bt3 bt4 bt5 (fun a0 a1 a2 => K [.dat (.int .i64) a0 [], .dat (.int .i64) a1 [], .dat (.int .i64) a2 []] none) (fun a0 a1 a2 a3 a4 a5 a6 => loopR (ev xlate_Check_E (Tb36 R) kk (sub [1, 1, 1, 1, 0, 1, 0, 0] xlate_Check_c)) [3, 4, 5, 13, 46, 48, 49, 50] [3, 4, 5, 6, 7, 8] kk (xlate_Check_h1 a0 a1 a2 a3 a4 a5 a6) (kBlock 2 (kSeq xlate_Check_E (Tb36 R) kk (sub [1, 1, 1, 1, 1] xlate_Check_c) (kFin xlate_Check_E Tryd.f13.results.toList none K)))) := by kernel_rfl
theorem xlate_Check_d1 (R : Type) (kk k : Nat) (t48 : Zt12) (t49 : Int) (t50 : Int) (bt3 : Zt22) (bt4 : Zt16) (bt5 : Zt16) (bt13 : Zt7) (K : Ex → State → Option R) : loopR (ev xlate_Check_E (Tb36 R) kk (sub [1, 1, 1, 1, 0, 1, 0, 0] xlate_Check_c)) [3, 4, 5, 13, 46, 48, 49, 50] [3, 4, 5, 6, 7, 8] (k + 1) (xlate_Check_h1 t48 t49 t50 bt3 bt4 bt5 bt13) K =
  xlate_Check_s4 t48 t49 t50 bt3 bt4 bt5 bt13 (fun a0 a1 a2 a3 a4 a5 => K .ret (xlate_Check_x1_0 a0 a1 a2 a3 a4 a5)) (fun a0 a1 a2 a3 a4 a5 a6 => loopR (ev xlate_Check_E (Tb36 R) kk (sub [1, 1, 1, 1, 0, 1, 0, 0] xlate_Check_c)) [3, 4, 5, 13, 46, 48, 49, 50] [3, 4, 5, 6, 7, 8] k (xlate_Check_h1 a0 a1 a2 a3 a4 a5 a6) K) (fun a0 a1 a2 => K (.exit 2) (xlate_Check_x1_1 a0 a1 a2)) := by kernel_rfl
theorem xlate_Check_y1_0 (R : Type) (kk : Nat) (t6 : Int) (t7 : Int) (t8 : Int) (bt3 : Zt22) (bt4 : Zt16) (bt5 : Zt16) (K : List SV → Option Box → Option R) : (kBlock 2 (kSeq xlate_Check_E (Tb36 R) kk (sub [1, 1, 1, 1, 1] xlate_Check_c) (kFin xlate_Check_E Tryd.f13.results.toList none K))) .ret (xlate_Check_x1_0 t6 t7 t8 bt3 bt4 bt5) =
  xlate_Check_s5 t6 t7 t8 bt3 bt4 bt5 (fun a0 a1 a2 => K [.dat (.int .i64) a0 [], .dat (.int .i64) a1 [], .dat (.int .i64) a2 []] none) := by kernel_rfl
theorem xlate_Check_y1_1 (R : Type) (kk : Nat) (bt3 : Zt22) (bt4 : Zt16) (bt5 : Zt16) (K : List SV → Option Box → Option R) : (kBlock 2 (kSeq xlate_Check_E (Tb36 R) kk (sub [1, 1, 1, 1, 1] xlate_Check_c) (kFin xlate_Check_E Tryd.f13.results.toList none K))) (.exit 2) (xlate_Check_x1_1 bt3 bt4 bt5) =
  xlate_Check_s6 bt3 bt4 bt5 (fun a0 a1 a2 => K [.dat (.int .i64) a0 [], .dat (.int .i64) a1 [], .dat (.int .i64) a2 []] none) (fun a0 a1 a2 a3 a4 a5 a6 => loopR (ev xlate_Check_E (Tb36 R) kk (sub [1, 1, 1, 1, 1, 1, 1, 0, 1, 0, 0] xlate_Check_c)) [4, 5, 16, 17, 77, 78, 79] [6, 7, 8] kk (xlate_Check_h2 a0 a1 a2 a3 a4 a5 a6) (kBlock 5 (kSeq xlate_Check_E (Tb36 R) kk (sub [1, 1, 1, 1, 1, 1, 1, 1] xlate_Check_c) (kFin xlate_Check_E Tryd.f13.results.toList none K)))) := by kernel_rfl
theorem xlate_Check_d2 (R : Type) (kk k : Nat) (t77 : Zt20) (t78 : Int) (t79 : Int) (bt4 : Zt16) (bt5 : Zt16) (bt16 : Zt4) (bt17 : Zt4) (K : Ex → State → Option R) : loopR (ev xlate_Check_E (Tb36 R) kk (sub [1, 1, 1, 1, 1, 1, 1, 0, 1, 0, 0] xlate_Check_c)) [4, 5, 16, 17, 77, 78, 79] [6, 7, 8] (k + 1) (xlate_Check_h2 t77 t78 t79 bt4 bt5 bt16 bt17) K =
  xlate_Check_s7 t77 t78 t79 bt4 bt5 bt16 bt17 (fun a0 a1 a2 => K .ret (xlate_Check_x2_0 a0 a1 a2)) (fun a0 a1 a2 a3 a4 a5 a6 => loopR (ev xlate_Check_E (Tb36 R) kk (sub [1, 1, 1, 1, 1, 1, 1, 0, 1, 0, 0] xlate_Check_c)) [4, 5, 16, 17, 77, 78, 79] [6, 7, 8] k (xlate_Check_h2 a0 a1 a2 a3 a4 a5 a6) K) (K (.exit 5) (xlate_Check_x2_1)) := by kernel_rfl
theorem xlate_Check_y2_0 (R : Type) (kk : Nat) (t6 : Int) (t7 : Int) (t8 : Int) (K : List SV → Option Box → Option R) : (kBlock 5 (kSeq xlate_Check_E (Tb36 R) kk (sub [1, 1, 1, 1, 1, 1, 1, 1] xlate_Check_c) (kFin xlate_Check_E Tryd.f13.results.toList none K))) .ret (xlate_Check_x2_0 t6 t7 t8) =
  xlate_Check_s8 t6 t7 t8 (fun a0 a1 a2 => K [.dat (.int .i64) a0 [], .dat (.int .i64) a1 [], .dat (.int .i64) a2 []] none) := by kernel_rfl
theorem xlate_Check_y2_1 (R : Type) (kk : Nat)  (K : List SV → Option Box → Option R) : (kBlock 5 (kSeq xlate_Check_E (Tb36 R) kk (sub [1, 1, 1, 1, 1, 1, 1, 1] xlate_Check_c) (kFin xlate_Check_E Tryd.f13.results.toList none K))) (.exit 5) (xlate_Check_x2_1) =
  xlate_Check_s9 (fun a0 a1 a2 => K [.dat (.int .i64) a0 [], .dat (.int .i64) a1 [], .dat (.int .i64) a2 []] none) := by kernel_rfl
theorem xlate_Check_lp0 (R : Type) (k : Nat) (t26 : Zt17) (t27 : Int) (t28 : Int) (bt3 : Zt22) (bt4 : Zt16) (bt5 : Zt16) (K : Ex → State → Option R) : loopR (ev xlate_Check_E (Tb36 R) FUEL (sub [1, 0, 1, 0, 0] xlate_Check_c)) [3, 4, 5, 26, 27, 28] [3, 4, 5, 6, 7, 8] k (xlate_Check_h0 t26 t27 t28 bt3 bt4 bt5) K = (xlate_Check_l0 k t26 t27 t28 bt3 bt4 bt5).bind fun e => (Sum.elim (fun (we : Zt24) => K .ret (xlate_Check_x0_0 we.1 we.2.1 we.2.2.1 we.2.2.2.1 we.2.2.2.2.1 we.2.2.2.2.2)) (fun (we : Zt23) => K (.exit 0) (xlate_Check_x0_1 we.1 we.2.1 we.2.2)) e) := by
  induction k generalizing t26 t27 t28 bt3 bt4 bt5 with
  | zero => rfl
  | succ k ih =>
    rw [xlate_Check_d0]
    simp only [xlate_Check_l0, xlate_Check_s0_bind, xlate_Check_s1_bind, xlate_Check_s2_bind, xlate_Check_s3_bind, xlate_Check_s4_bind, xlate_Check_s5_bind, xlate_Check_s6_bind, xlate_Check_s7_bind, xlate_Check_s8_bind, xlate_Check_s9_bind, ih, cond_bind, within_bind, none_bind, some_bind, sum_bind, bind_bind, Sum.elim_inl, Sum.elim_inr]
theorem xlate_Check_lp1 (R : Type) (k : Nat) (t48 : Zt12) (t49 : Int) (t50 : Int) (bt3 : Zt22) (bt4 : Zt16) (bt5 : Zt16) (bt13 : Zt7) (K : Ex → State → Option R) : loopR (ev xlate_Check_E (Tb36 R) FUEL (sub [1, 1, 1, 1, 0, 1, 0, 0] xlate_Check_c)) [3, 4, 5, 13, 46, 48, 49, 50] [3, 4, 5, 6, 7, 8] k (xlate_Check_h1 t48 t49 t50 bt3 bt4 bt5 bt13) K = (xlate_Check_l1 k t48 t49 t50 bt3 bt4 bt5 bt13).bind fun e => (Sum.elim (fun (we : Zt24) => K .ret (xlate_Check_x1_0 we.1 we.2.1 we.2.2.1 we.2.2.2.1 we.2.2.2.2.1 we.2.2.2.2.2)) (fun (we : Zt23) => K (.exit 2) (xlate_Check_x1_1 we.1 we.2.1 we.2.2)) e) := by
  induction k generalizing t48 t49 t50 bt3 bt4 bt5 bt13 with
  | zero => rfl
  | succ k ih =>
    rw [xlate_Check_d1]
    simp only [xlate_Check_l1, xlate_Check_s0_bind, xlate_Check_s1_bind, xlate_Check_s2_bind, xlate_Check_s3_bind, xlate_Check_s4_bind, xlate_Check_s5_bind, xlate_Check_s6_bind, xlate_Check_s7_bind, xlate_Check_s8_bind, xlate_Check_s9_bind, ih, cond_bind, within_bind, none_bind, some_bind, sum_bind, bind_bind, Sum.elim_inl, Sum.elim_inr]
theorem xlate_Check_lp2 (R : Type) (k : Nat) (t77 : Zt20) (t78 : Int) (t79 : Int) (bt4 : Zt16) (bt5 : Zt16) (bt16 : Zt4) (bt17 : Zt4) (K : Ex → State → Option R) : loopR (ev xlate_Check_E (Tb36 R) FUEL (sub [1, 1, 1, 1, 1, 1, 1, 0, 1, 0, 0] xlate_Check_c)) [4, 5, 16, 17, 77, 78, 79] [6, 7, 8] k (xlate_Check_h2 t77 t78 t79 bt4 bt5 bt16 bt17) K = (xlate_Check_l2 k t77 t78 t79 bt4 bt5 bt16 bt17).bind fun e => (Sum.elim (fun (we : Zt0) => K .ret (xlate_Check_x2_0 we.1 we.2.1 we.2.2)) (fun (we : Unit) => K (.exit 5) (xlate_Check_x2_1)) e) := by
  induction k generalizing t77 t78 t79 bt4 bt5 bt16 bt17 with
  | zero => rfl
  | succ k ih =>
    rw [xlate_Check_d2]
    simp only [xlate_Check_l2, xlate_Check_s0_bind, xlate_Check_s1_bind, xlate_Check_s2_bind, xlate_Check_s3_bind, xlate_Check_s4_bind, xlate_Check_s5_bind, xlate_Check_s6_bind, xlate_Check_s7_bind, xlate_Check_s8_bind, xlate_Check_s9_bind, ih, cond_bind, within_bind, none_bind, some_bind, sum_bind, bind_bind, Sum.elim_inl, Sum.elim_inr]
theorem xlate_Check_eq (R : Type) (m_0 : Zt22) (a_1 : Zt16) (b_2 : Zt16) (K : List SV → Option Box → Option R) : evFn xlate_Check_E (Tb36 R) FUEL Tryd.f13 xlate_Check_c [.dat y14 m_0 [], .dat y13 a_1 [], .dat y13 b_2 []] none K = (xlate_Check m_0 a_1 b_2).bind fun r => K [.dat (.int .i64) r.1 [], .dat (.int .i64) r.2.1 [], .dat (.int .i64) r.2.2 []] none := by
  rw [xlate_Check_t]
  simp only [xlate_Check, xlate_Check_s0_bind, xlate_Check_s1_bind, xlate_Check_s2_bind, xlate_Check_s3_bind, xlate_Check_s4_bind, xlate_Check_s5_bind, xlate_Check_s6_bind, xlate_Check_s7_bind, xlate_Check_s8_bind, xlate_Check_s9_bind, xlate_Check_lp0, xlate_Check_lp1, xlate_Check_lp2, xlate_Check_y0_0, xlate_Check_y0_1, xlate_Check_y1_0, xlate_Check_y1_1, xlate_Check_y2_0, xlate_Check_y2_1, cond_bind, within_bind, none_bind, some_bind, sum_bind, bind_bind, Sum.elim_inl, Sum.elim_inr]
def xlate_Check_g : Pure := fun R l b K => noBox b (args3 y14 y13 y13 l (fun x0 x1 x2 => (xlate_Check x0 x1 x2).bind fun r => K [.dat (.int .i64) r.1 [], .dat (.int .i64) r.2.1 [], .dat (.int .i64) r.2.2 []] none))
theorem xlate_Check_n : xlate_Check_g.Nat := fun R S l b F G K h => noBox_nat (args3_nat fun _ _ _ => bindr_nat fun _ => h _ _)
def Tb37 : Funs := Tb36.add 13 [y14, y13, y13] xlate_Check_g
theorem Tb37_nat : Tb37.Nat := add_nat Tb36_nat xlate_Check_n
theorem Tb37_owes : ∀ f, Owes Tryd.prog Tb37 f := add_owes (E := xlate_Check_E) (Tab.env_ok tab_ok _ _ _ _) mixed Tb36_nat Tb36_owes (fn := Tryd.f13) (code := xlate_Check_c) Tryd.func13 (by kernel_rfl) (by kernel_rfl) fun l b r b' h => by
  obtain ⟨rfl, h⟩ := noBox_some h
  obtain ⟨x0, x1, x2, h1, h2⟩ := own3 (E := xlate_Check_E) rfl h
  exact ⟨FUEL, (h2 _ _ _ _ _ _).trans ((xlate_Check_eq _ x0 x1 x2 _).trans h1)⟩
noncomputable abbrev msg_Check_c : Code := Tryd.f10.body.getD .skip
def msg_Check_E : Env := tab.env (fun i => bif Nat.beq i 9 then [2, 4, 9, 39, 40, 41] else []) (fun i => bif Nat.beq i 9 then [4] else []) [4] [y13, y4]
def msg_Check_h0 (t9 : Int) (t39 : Zt9) (t40 : Int) (t41 : Int) (bt2 : Zt16) (bt4 : Zt4) : State := ⟨[U_, U_, [.ptr 3 y13 []], U_, [.ptr 5 (.pair (.int .i64) (.pair (.int .i64) .unit)) []], U_, U_, U_, U_, [.dat (.int .i64) t9 []], U_, U_, U_, U_, U_, U_, U_, U_, U_, U_, U_, U_, U_, U_, U_, U_, U_, U_, U_, U_, U_, U_, U_, U_, U_, U_, U_, U_, U_, [.dat (.sl 45 (.pair (.int .i64) (.pair .str .unit))) t39 []], [.dat (.int .i64) t40 []], [.dat (.int .i64) t41 []], U_, U_, U_, U_, U_, U_, U_, U_, U_, U_, U_, U_, U_, U_, U_, U_, U_, U_, U_, U_, U_, U_, U_, U_, U_, U_, U_, U_, U_, U_, U_, U_, U_, U_, U_, U_], [N_, N_, N_, some ⟨y13, bt2, []⟩, N_, some ⟨(.pair (.int .i64) (.pair (.int .i64) .unit)), bt4, []⟩, N_, N_, N_, N_, N_, N_, N_, N_, N_, N_, N_, N_, N_, N_, N_, N_, N_, N_, N_, N_, N_, N_, N_, N_, N_, N_, N_, N_, N_, N_, N_, N_, N_, N_, N_, N_, N_, N_, N_, N_, N_, N_, N_, N_, N_, N_, N_, N_, N_, N_, N_, N_, N_, N_, N_, N_, N_, N_, N_, N_, N_, N_, N_, N_, N_, N_, N_, N_, N_, N_, N_, N_, N_]⟩
def msg_Check_x0_0 (bt4 : Zt4) : State := ⟨[U_, U_, U_, U_, [.ptr 5 (.pair (.int .i64) (.pair (.int .i64) .unit)) []], U_, U_, U_, U_, U_, U_, U_, U_, U_, U_, U_, U_, U_, U_, U_, U_, U_, U_, U_, U_, U_, U_, U_, U_, U_, U_, U_, U_, U_, U_, U_, U_, U_, U_, U_, U_, U_, U_, U_, U_, U_, U_, U_, U_, U_, U_, U_, U_, U_, U_, U_, U_, U_, U_, U_, U_, U_, U_, U_, U_, U_, U_, U_, U_, U_, U_, U_, U_, U_, U_, U_, U_, U_], [N_, N_, N_, N_, N_, some ⟨(.pair (.int .i64) (.pair (.int .i64) .unit)), bt4, []⟩, N_, N_, N_, N_, N_, N_, N_, N_, N_, N_, N_, N_, N_, N_, N_, N_, N_, N_, N_, N_, N_, N_, N_, N_, N_, N_, N_, N_, N_, N_, N_, N_, N_, N_, N_, N_, N_, N_, N_, N_, N_, N_, N_, N_, N_, N_, N_, N_, N_, N_, N_, N_, N_, N_, N_, N_, N_, N_, N_, N_, N_, N_, N_, N_, N_, N_, N_, N_, N_, N_, N_, N_, N_]⟩
def msg_Check_x0_1 (bt4 : Zt4) : State := ⟨[U_, U_, U_, U_, [.ptr 5 (.pair (.int .i64) (.pair (.int .i64) .unit)) []], U_, U_, U_, U_, U_, U_, U_, U_, U_, U_, U_, U_, U_, U_, U_, U_, U_, U_, U_, U_, U_, U_, U_, U_, U_, U_, U_, U_, U_, U_, U_, U_, U_, U_, U_, U_, U_, U_, U_, U_, U_, U_, U_, U_, U_, U_, U_, U_, U_, U_, U_, U_, U_, U_, U_, U_, U_, U_, U_, U_, U_, U_, U_, U_, U_, U_, U_, U_, U_, U_, U_, U_, U_], [N_, N_, N_, N_, N_, some ⟨(.pair (.int .i64) (.pair (.int .i64) .unit)), bt4, []⟩, N_, N_, N_, N_, N_, N_, N_, N_, N_, N_, N_, N_, N_, N_, N_, N_, N_, N_, N_, N_, N_, N_, N_, N_, N_, N_, N_, N_, N_, N_, N_, N_, N_, N_, N_, N_, N_, N_, N_, N_, N_, N_, N_, N_, N_, N_, N_, N_, N_, N_, N_, N_, N_, N_, N_, N_, N_, N_, N_, N_, N_, N_, N_, N_, N_, N_, N_, N_, N_, N_, N_, N_, N_]⟩
theorem msg_Check_t (R : Type) (kk : Nat) (s_0 : Zt16) (m_1 : Zt15) (K : List SV → Option Box → Option R) : evFn msg_Check_E (Tb37 R) kk Tryd.f10 msg_Check_c [.dat y13 s_0 [], .dat y4 m_1 []] none K =
  msg_Check_s0 s_0 m_1 (fun a0 => K [.dat (.pair (.int .i64) (.pair (.int .i64) .unit)) a0 []] none) (fun a0 a1 a2 a3 a4 a5 => loopR (ev msg_Check_E (Tb37 R) kk (sub [1, 1, 1, 1, 0, 1, 0, 0] msg_Check_c)) [2, 4, 9, 39, 40, 41] [4] kk (msg_Check_h0 a0 a1 a2 a3 a4 a5) (kBlock 0 (kSeq msg_Check_E (Tb37 R) kk (sub [1, 1, 1, 1, 1] msg_Check_c) (kFin msg_Check_E Tryd.f10.results.toList none K)))) := by kernel_rfl
theorem msg_Check_d0 (R : Type) (kk k : Nat) (t9 : Int) (t39 : Zt9) (t40 : Int) (t41 : Int) (bt2 : Zt16) (bt4 : Zt4) (K : Ex → State → Option R) : loopR (ev msg_Check_E (Tb37 R) kk (sub [1, 1, 1, 1, 0, 1, 0, 0] msg_Check_c)) [2, 4, 9, 39, 40, 41] [4] (k + 1) (msg_Check_h0 t9 t39 t40 t41 bt2 bt4) K =
  msg_Check_s1 t9 t39 t40 t41 bt2 bt4 (fun a0 => K .ret (msg_Check_x0_0 a0)) (fun a0 a1 a2 a3 a4 a5 => loopR (ev msg_Check_E (Tb37 R) kk (sub [1, 1, 1, 1, 0, 1, 0, 0] msg_Check_c)) [2, 4, 9, 39, 40, 41] [4] k (msg_Check_h0 a0 a1 a2 a3 a4 a5) K) (fun a0 => K (.exit 0) (msg_Check_x0_1 a0)) := by kernel_rfl
theorem msg_Check_y0_0 (R : Type) (kk : Nat) (bt4 : Zt4) (K : List SV → Option Box → Option R) : (kBlock 0 (kSeq msg_Check_E (Tb37 R) kk (sub [1, 1, 1, 1, 1] msg_Check_c) (kFin msg_Check_E Tryd.f10.results.toList none K))) .ret (msg_Check_x0_0 bt4) =
  msg_Check_s2 bt4 (fun a0 => K [.dat (.pair (.int .i64) (.pair (.int .i64) .unit)) a0 []] none) := by kernel_rfl
theorem msg_Check_y0_1 (R : Type) (kk : Nat) (bt4 : Zt4) (K : List SV → Option Box → Option R) : (kBlock 0 (kSeq msg_Check_E (Tb37 R) kk (sub [1, 1, 1, 1, 1] msg_Check_c) (kFin msg_Check_E Tryd.f10.results.toList none K))) (.exit 0) (msg_Check_x0_1 bt4) =
  msg_Check_s3 bt4 (fun a0 => K [.dat (.pair (.int .i64) (.pair (.int .i64) .unit)) a0 []] none) := by kernel_rfl
theorem msg_Check_lp0 (R : Type) (k : Nat) (t9 : Int) (t39 : Zt9) (t40 : Int) (t41 : Int) (bt2 : Zt16) (bt4 : Zt4) (K : Ex → State → Option R) : loopR (ev msg_Check_E (Tb37 R) FUEL (sub [1, 1, 1, 1, 0, 1, 0, 0] msg_Check_c)) [2, 4, 9, 39, 40, 41] [4] k (msg_Check_h0 t9 t39 t40 t41 bt2 bt4) K = (msg_Check_l0 k t9 t39 t40 t41 bt2 bt4).bind fun e => (Sum.elim (fun (we : Zt4) => K .ret (msg_Check_x0_0 we)) (fun (we : Zt4) => K (.exit 0) (msg_Check_x0_1 we)) e) := by
  induction k generalizing t9 t39 t40 t41 bt2 bt4 with
  | zero => rfl
  | succ k ih =>
    rw [msg_Check_d0]
    simp only [msg_Check_l0, msg_Check_s0_bind, msg_Check_s1_bind, msg_Check_s2_bind, msg_Check_s3_bind, ih, cond_bind, within_bind, none_bind, some_bind, sum_bind, bind_bind, Sum.elim_inl, Sum.elim_inr]
theorem msg_Check_eq (R : Type) (s_0 : Zt16) (m_1 : Zt15) (K : List SV → Option Box → Option R) : evFn msg_Check_E (Tb37 R) FUEL Tryd.f10 msg_Check_c [.dat y13 s_0 [], .dat y4 m_1 []] none K = (msg_Check s_0 m_1).bind fun r => K [.dat (.pair (.int .i64) (.pair (.int .i64) .unit)) r []] none := by
  rw [msg_Check_t]
  simp only [msg_Check, msg_Check_s0_bind, msg_Check_s1_bind, msg_Check_s2_bind, msg_Check_s3_bind, msg_Check_lp0, msg_Check_y0_0, msg_Check_y0_1, cond_bind, within_bind, none_bind, some_bind, sum_bind, bind_bind, Sum.elim_inl, Sum.elim_inr]
def msg_Check_g : Pure := fun R l b K => noBox b (args2 y13 y4 l (fun x0 x1 => (msg_Check x0 x1).bind fun r => K [.dat (.pair (.int .i64) (.pair (.int .i64) .unit)) r []] none))
theorem msg_Check_n : msg_Check_g.Nat := fun R S l b F G K h => noBox_nat (args2_nat fun _ _ => bindr_nat fun _ => h _ _)
def Tb38 : Funs := Tb37.add 10 [y13, y4] msg_Check_g
theorem Tb38_nat : Tb38.Nat := add_nat Tb37_nat msg_Check_n
theorem Tb38_owes : ∀ f, Owes Tryd.prog Tb38 f := add_owes (E := msg_Check_E) (Tab.env_ok tab_ok _ _ _ _) mixed Tb37_nat Tb37_owes (fn := Tryd.f10) (code := msg_Check_c) Tryd.func10 (by kernel_rfl) (by kernel_rfl) fun l b r b' h => by
  obtain ⟨rfl, h⟩ := noBox_some h
  obtain ⟨x0, x1, h1, h2⟩ := own2 (E := msg_Check_E) rfl h
  exact ⟨FUEL, (h2 _ _ _ _ _ _).trans ((msg_Check_eq _ x0 x1 _).trans h1)⟩
noncomputable abbrev xlate_head_c : Code := Tryd.f15.body.getD .skip
def xlate_head_E : Env := tab.env (fun i => bif Nat.beq i 2 then [1, 9, 10, 11] else []) (fun i => bif Nat.beq i 2 then [4, 5] else []) [] [y14, .str]
def xlate_head_h0 (t_1 : ByteArray) (t9 : Zt12) (t10 : Int) (t11 : Int) : State := ⟨[U_, [.dat .str t_1 []], U_, U_, U_, U_, U_, U_, U_, [.dat (.sl 51 (.pair .str (.pair .str .unit))) t9 []], [.dat (.int .i64) t10 []], [.dat (.int .i64) t11 []], U_, U_, U_, U_, U_, U_, U_, U_, U_, U_], [N_, N_, N_, N_, N_, N_, N_, N_, N_, N_, N_, N_, N_, N_, N_, N_, N_, N_, N_, N_, N_, N_, N_]⟩
def xlate_head_x0_0 (t4 : ByteArray) (t5 : Bool) : State := ⟨[U_, U_, U_, U_, [.dat .str t4 []], [.dat .bool t5 []], U_, U_, U_, U_, U_, U_, U_, U_, U_, U_, U_, U_, U_, U_, U_, U_], [N_, N_, N_, N_, N_, N_, N_, N_, N_, N_, N_, N_, N_, N_, N_, N_, N_, N_, N_, N_, N_, N_, N_]⟩
def xlate_head_x0_1  : State := ⟨[U_, U_, U_, U_, U_, U_, U_, U_, U_, U_, U_, U_, U_, U_, U_, U_, U_, U_, U_, U_, U_, U_], [N_, N_, N_, N_, N_, N_, N_, N_, N_, N_, N_, N_, N_, N_, N_, N_, N_, N_, N_, N_, N_, N_, N_]⟩
theorem xlate_head_t (R : Type) (kk : Nat) (m_0 : Zt22) (t_1 : ByteArray) (K : List SV → Option Box → Option R) : evFn xlate_head_E (Tb38 R) kk Tryd.f15 xlate_head_c [.dat y14 m_0 [], .dat .str t_1 []] none K =
  xlate_head_s0 m_0 t_1 (fun a0 a1 a2 a3 => loopR (ev xlate_head_E (Tb38 R) kk (sub [1, 0, 1, 0, 0] xlate_head_c)) [1, 9, 10, 11] [4, 5] kk (xlate_head_h0 a0 a1 a2 a3) (kBlock 0 (kSeq xlate_head_E (Tb38 R) kk (sub [1, 1] xlate_head_c) (kFin xlate_head_E Tryd.f15.results.toList none K)))) := by kernel_rfl
theorem xlate_head_d0 (R : Type) (kk k : Nat) (t_1 : ByteArray) (t9 : Zt12) (t10 : Int) (t11 : Int) (K : Ex → State → Option R) : loopR (ev xlate_head_E (Tb38 R) kk (sub [1, 0, 1, 0, 0] xlate_head_c)) [1, 9, 10, 11] [4, 5] (k + 1) (xlate_head_h0 t_1 t9 t10 t11) K =
  xlate_head_s1 t_1 t9 t10 t11 (fun a0 a1 => K .ret (xlate_head_x0_0 a0 a1)) (fun a0 a1 a2 a3 => loopR (ev xlate_head_E (Tb38 R) kk (sub [1, 0, 1, 0, 0] xlate_head_c)) [1, 9, 10, 11] [4, 5] k (xlate_head_h0 a0 a1 a2 a3) K) (K (.exit 0) (xlate_head_x0_1)) := by kernel_rfl
theorem xlate_head_y0_0 (R : Type) (kk : Nat) (t4 : ByteArray) (t5 : Bool) (K : List SV → Option Box → Option R) : (kBlock 0 (kSeq xlate_head_E (Tb38 R) kk (sub [1, 1] xlate_head_c) (kFin xlate_head_E Tryd.f15.results.toList none K))) .ret (xlate_head_x0_0 t4 t5) =
  xlate_head_s2 t4 t5 (fun a0 a1 => K [.dat .str a0 [], .dat .bool a1 []] none) := by kernel_rfl
theorem xlate_head_y0_1 (R : Type) (kk : Nat)  (K : List SV → Option Box → Option R) : (kBlock 0 (kSeq xlate_head_E (Tb38 R) kk (sub [1, 1] xlate_head_c) (kFin xlate_head_E Tryd.f15.results.toList none K))) (.exit 0) (xlate_head_x0_1) =
  xlate_head_s3 (fun a0 a1 => K [.dat .str a0 [], .dat .bool a1 []] none) := by kernel_rfl
theorem xlate_head_lp0 (R : Type) (k : Nat) (t_1 : ByteArray) (t9 : Zt12) (t10 : Int) (t11 : Int) (K : Ex → State → Option R) : loopR (ev xlate_head_E (Tb38 R) FUEL (sub [1, 0, 1, 0, 0] xlate_head_c)) [1, 9, 10, 11] [4, 5] k (xlate_head_h0 t_1 t9 t10 t11) K = (xlate_head_l0 k t_1 t9 t10 t11).bind fun e => (Sum.elim (fun (we : Zt3) => K .ret (xlate_head_x0_0 we.1 we.2)) (fun (we : Unit) => K (.exit 0) (xlate_head_x0_1)) e) := by
  induction k generalizing t_1 t9 t10 t11 with
  | zero => rfl
  | succ k ih =>
    rw [xlate_head_d0]
    simp only [xlate_head_l0, xlate_head_s0_bind, xlate_head_s1_bind, xlate_head_s2_bind, xlate_head_s3_bind, ih, cond_bind, within_bind, none_bind, some_bind, sum_bind, bind_bind, Sum.elim_inl, Sum.elim_inr]
theorem xlate_head_eq (R : Type) (m_0 : Zt22) (t_1 : ByteArray) (K : List SV → Option Box → Option R) : evFn xlate_head_E (Tb38 R) FUEL Tryd.f15 xlate_head_c [.dat y14 m_0 [], .dat .str t_1 []] none K = (xlate_head m_0 t_1).bind fun r => K [.dat .str r.1 [], .dat .bool r.2 []] none := by
  rw [xlate_head_t]
  simp only [xlate_head, xlate_head_s0_bind, xlate_head_s1_bind, xlate_head_s2_bind, xlate_head_s3_bind, xlate_head_lp0, xlate_head_y0_0, xlate_head_y0_1, cond_bind, within_bind, none_bind, some_bind, sum_bind, bind_bind, Sum.elim_inl, Sum.elim_inr]
def xlate_head_g : Pure := fun R l b K => noBox b (args2 y14 .str l (fun x0 x1 => (xlate_head x0 x1).bind fun r => K [.dat .str r.1 [], .dat .bool r.2 []] none))
theorem xlate_head_n : xlate_head_g.Nat := fun R S l b F G K h => noBox_nat (args2_nat fun _ _ => bindr_nat fun _ => h _ _)
def Tb39 : Funs := Tb38.add 15 [y14, .str] xlate_head_g
theorem Tb39_nat : Tb39.Nat := add_nat Tb38_nat xlate_head_n
theorem Tb39_owes : ∀ f, Owes Tryd.prog Tb39 f := add_owes (E := xlate_head_E) (Tab.env_ok tab_ok _ _ _ _) mixed Tb38_nat Tb38_owes (fn := Tryd.f15) (code := xlate_head_c) Tryd.func15 (by kernel_rfl) (by kernel_rfl) fun l b r b' h => by
  obtain ⟨rfl, h⟩ := noBox_some h
  obtain ⟨x0, x1, h1, h2⟩ := own2 (E := xlate_head_E) rfl h
  exact ⟨FUEL, (h2 _ _ _ _ _ _).trans ((xlate_head_eq _ x0 x1 _).trans h1)⟩
noncomputable abbrev msg_Without_c : Code := Tryd.f30.body.getD .skip
def msg_Without_E : Env := tab.env (fun i => bif Nat.beq i 3 then [1, 4, 5, 12, 13, 14] else []) (fun i => bif Nat.beq i 3 then [4, 5] else []) [4] [y4, (.int .i64)]
def msg_Without_h0 (no_1 : Int) (t12 : Zt9) (t13 : Int) (t14 : Int) (bt4 : Zt15) (bt5 : Zt15) : State := ⟨[U_, [.dat (.int .i64) no_1 []], U_, U_, [.ptr 5 y4 []], [.ptr 6 y4 []], U_, U_, U_, U_, U_, U_, [.dat (.sl 45 (.pair (.int .i64) (.pair .str .unit))) t12 []], [.dat (.int .i64) t13 []], [.dat (.int .i64) t14 []], U_, U_, U_, U_, U_, U_, U_, U_, U_, U_, U_, U_, U_, U_, U_], [N_, N_, N_, N_, N_, some ⟨y4, bt4, [[1]]⟩, some ⟨y4, bt5, [[1]]⟩, N_, N_, N_, N_, N_, N_, N_, N_, N_, N_, N_, N_, N_, N_, N_, N_, N_, N_, N_, N_, N_, N_, N_, N_]⟩
def msg_Without_x0_0 (bt4 : Zt15) (bt5 : Zt15) : State := ⟨[U_, U_, U_, U_, [.ptr 5 y4 []], [.ptr 6 y4 []], U_, U_, U_, U_, U_, U_, U_, U_, U_, U_, U_, U_, U_, U_, U_, U_, U_, U_, U_, U_, U_, U_, U_, U_], [N_, N_, N_, N_, N_, some ⟨y4, bt4, [[1]]⟩, some ⟨y4, bt5, [[1]]⟩, N_, N_, N_, N_, N_, N_, N_, N_, N_, N_, N_, N_, N_, N_, N_, N_, N_, N_, N_, N_, N_, N_, N_, N_]⟩
theorem msg_Without_t (R : Type) (kk : Nat) (m_0 : Zt15) (no_1 : Int) (K : List SV → Option Box → Option R) : evFn msg_Without_E (Tb39 R) kk Tryd.f30 msg_Without_c [.dat y4 m_0 [], .dat (.int .i64) no_1 []] none K =
  msg_Without_s0 m_0 no_1 (fun a0 a1 a2 a3 a4 a5 => loopR (ev msg_Without_E (Tb39 R) kk (sub [1, 1, 0, 1, 0, 0] msg_Without_c)) [1, 4, 5, 12, 13, 14] [4, 5] kk (msg_Without_h0 a0 a1 a2 a3 a4 a5) (kBlock 0 (kSeq msg_Without_E (Tb39 R) kk (sub [1, 1, 1] msg_Without_c) (kFin msg_Without_E Tryd.f30.results.toList none K)))) := by kernel_rfl
theorem msg_Without_d0 (R : Type) (kk k : Nat) (no_1 : Int) (t12 : Zt9) (t13 : Int) (t14 : Int) (bt4 : Zt15) (bt5 : Zt15) (K : Ex → State → Option R) : loopR (ev msg_Without_E (Tb39 R) kk (sub [1, 1, 0, 1, 0, 0] msg_Without_c)) [1, 4, 5, 12, 13, 14] [4, 5] (k + 1) (msg_Without_h0 no_1 t12 t13 t14 bt4 bt5) K =
  msg_Without_s1 no_1 t12 t13 t14 bt4 bt5 (fun a0 a1 a2 a3 a4 a5 => loopR (ev msg_Without_E (Tb39 R) kk (sub [1, 1, 0, 1, 0, 0] msg_Without_c)) [1, 4, 5, 12, 13, 14] [4, 5] k (msg_Without_h0 a0 a1 a2 a3 a4 a5) K) (fun a0 a1 => K (.exit 0) (msg_Without_x0_0 a0 a1)) := by kernel_rfl
theorem msg_Without_y0_0 (R : Type) (kk : Nat) (bt4 : Zt15) (bt5 : Zt15) (K : List SV → Option Box → Option R) : (kBlock 0 (kSeq msg_Without_E (Tb39 R) kk (sub [1, 1, 1] msg_Without_c) (kFin msg_Without_E Tryd.f30.results.toList none K))) (.exit 0) (msg_Without_x0_0 bt4 bt5) =
  msg_Without_s2 bt4 bt5 (fun a0 => K [.dat y4 a0 [[1]]] none) := by kernel_rfl
theorem msg_Without_lp0 (R : Type) (k : Nat) (no_1 : Int) (t12 : Zt9) (t13 : Int) (t14 : Int) (bt4 : Zt15) (bt5 : Zt15) (K : Ex → State → Option R) : loopR (ev msg_Without_E (Tb39 R) FUEL (sub [1, 1, 0, 1, 0, 0] msg_Without_c)) [1, 4, 5, 12, 13, 14] [4, 5] k (msg_Without_h0 no_1 t12 t13 t14 bt4 bt5) K = (msg_Without_l0 k no_1 t12 t13 t14 bt4 bt5).bind fun e => K (.exit 0) (msg_Without_x0_0 e.1 e.2) := by
  induction k generalizing no_1 t12 t13 t14 bt4 bt5 with
  | zero => rfl
  | succ k ih =>
    rw [msg_Without_d0]
    simp only [msg_Without_l0, msg_Without_s0_bind, msg_Without_s1_bind, msg_Without_s2_bind, ih, cond_bind, within_bind, none_bind, some_bind, sum_bind, bind_bind, Sum.elim_inl, Sum.elim_inr]
theorem msg_Without_eq (R : Type) (m_0 : Zt15) (no_1 : Int) (K : List SV → Option Box → Option R) : evFn msg_Without_E (Tb39 R) FUEL Tryd.f30 msg_Without_c [.dat y4 m_0 [], .dat (.int .i64) no_1 []] none K = (msg_Without m_0 no_1).bind fun r => K [.dat y4 r [[1]]] none := by
  rw [msg_Without_t]
  simp only [msg_Without, msg_Without_s0_bind, msg_Without_s1_bind, msg_Without_s2_bind, msg_Without_lp0, msg_Without_y0_0, cond_bind, within_bind, none_bind, some_bind, sum_bind, bind_bind, Sum.elim_inl, Sum.elim_inr]
def msg_Without_g : Pure := fun R l b K => noBox b (args2 y4 (.int .i64) l (fun x0 x1 => (msg_Without x0 x1).bind fun r => K [.dat y4 r [[1]]] none))
theorem msg_Without_n : msg_Without_g.Nat := fun R S l b F G K h => noBox_nat (args2_nat fun _ _ => bindr_nat fun _ => h _ _)
def Tb40 : Funs := Tb39.add 30 [y4, (.int .i64)] msg_Without_g
theorem Tb40_nat : Tb40.Nat := add_nat Tb39_nat msg_Without_n
theorem Tb40_owes : ∀ f, Owes Tryd.prog Tb40 f := add_owes (E := msg_Without_E) (Tab.env_ok tab_ok _ _ _ _) mixed Tb39_nat Tb39_owes (fn := Tryd.f30) (code := msg_Without_c) Tryd.func30 (by kernel_rfl) (by kernel_rfl) fun l b r b' h => by
  obtain ⟨rfl, h⟩ := noBox_some h
  obtain ⟨x0, x1, h1, h2⟩ := own2 (E := msg_Without_E) rfl h
  exact ⟨FUEL, (h2 _ _ _ _ _ _).trans ((msg_Without_eq _ x0 x1 _).trans h1)⟩
noncomputable abbrev msg_With_1_c : Code := Tryd.f32.body.getD .skip
def msg_With_1_E : Env := tab.env (fun _ => []) (fun _ => []) [] [(.pair (.int .i64) (.pair .str .unit)), .unit]
theorem msg_With_1_t (R : Type) (kk : Nat) (x_0 : Zt6) (free_1 : Int) (K : List SV → Option Box → Option R) : evFn msg_With_1_E (Tb40 R) kk Tryd.f32 msg_With_1_c [.dat (.pair (.int .i64) (.pair .str .unit)) x_0 [], .ptr 0 (.int .i64) []] (some ⟨(.int .i64), free_1, []⟩) K =
  msg_With_1_s0 x_0 free_1 (fun a0 a1 => K [.dat .bool a0 []] (some ⟨(.int .i64), a1, []⟩)) := by kernel_rfl
theorem msg_With_1_eq (R : Type) (x_0 : Zt6) (free_1 : Int) (K : List SV → Option Box → Option R) : evFn msg_With_1_E (Tb40 R) FUEL Tryd.f32 msg_With_1_c [.dat (.pair (.int .i64) (.pair .str .unit)) x_0 [], .ptr 0 (.int .i64) []] (some ⟨(.int .i64), free_1, []⟩) K = (msg_With_1 x_0 free_1).bind fun r => K [.dat .bool r.1 []] (some ⟨(.int .i64), r.2, []⟩) := by
  rw [msg_With_1_t]
  simp only [msg_With_1, msg_With_1_s0_bind, cond_bind, within_bind, none_bind, some_bind, sum_bind, bind_bind, Sum.elim_inl, Sum.elim_inr]
def msg_With_1_g : Pure := fun R l b K => argZ1 (.pair (.int .i64) (.pair .str .unit)) (.int .i64) (.int .i64) [] l b fun x0 x => (msg_With_1 x0 x).bind fun r => K [.dat .bool r.1 []] (some ⟨(.int .i64), r.2, []⟩)
theorem msg_With_1_n : msg_With_1_g.Nat := fun R S l b F G K h => argZ1_nat fun _ _ => bindr_nat fun _ => h _ _
def Tb41 : Funs := Tb40.add 32 [(.pair (.int .i64) (.pair .str .unit)), .unit] msg_With_1_g
theorem Tb41_nat : Tb41.Nat := add_nat Tb40_nat msg_With_1_n
theorem Tb41_owes : ∀ f, Owes Tryd.prog Tb41 f := add_owes (E := msg_With_1_E) (Tab.env_ok tab_ok _ _ _ _) mixed Tb40_nat Tb40_owes (fn := Tryd.f32) (code := msg_With_1_c) Tryd.func32 (by kernel_rfl) (by kernel_rfl) fun l b r b' h => by
  obtain ⟨x0, x, rfl, h1, h2⟩ := ownZ1 (E := msg_With_1_E) rfl h
  exact ⟨FUEL, (h2 _ _ _ _ _ _).trans ((msg_With_1_eq _ x0 x _).trans h1)⟩
noncomputable abbrev slices_IndexFunc_api_Value_api_Value_at_msg_With_1_c : Code := Tryd.f31.body.getD .skip
def slices_IndexFunc_api_Value_api_Value_at_msg_With_1_E : Env := tab.env (fun i => bif Nat.beq i 2 then [0, 1, 7, 8] else []) (fun i => bif Nat.beq i 2 then [4] else []) [] [(.sl 45 (.pair (.int .i64) (.pair .str .unit))), .unit]
def slices_IndexFunc_api_Value_api_Value_at_msg_With_1_h0 (a_0 : Zt9) (t7 : Int) (t8 : Int) (recv : Int) : State := ⟨[[.dat (.sl 45 (.pair (.int .i64) (.pair .str .unit))) a_0 []], [.ptr 0 (.spc (.clo 32) (.int .i64) .unit) []], U_, U_, U_, U_, U_, [.dat (.int .i64) t7 []], [.dat (.int .i64) t8 []], U_, U_, U_, U_, U_, U_, U_, U_, U_, U_], [some ⟨(.int .i64), recv, []⟩, N_, N_, N_, N_, N_, N_, N_, N_, N_, N_, N_, N_, N_, N_, N_, N_, N_, N_, N_]⟩
def slices_IndexFunc_api_Value_api_Value_at_msg_With_1_x0_0 (t4 : Int) (recv : Int) : State := ⟨[U_, U_, U_, U_, [.dat (.int .i64) t4 []], U_, U_, U_, U_, U_, U_, U_, U_, U_, U_, U_, U_, U_, U_], [some ⟨(.int .i64), recv, []⟩, N_, N_, N_, N_, N_, N_, N_, N_, N_, N_, N_, N_, N_, N_, N_, N_, N_, N_, N_]⟩
def slices_IndexFunc_api_Value_api_Value_at_msg_With_1_x0_1 (recv : Int) : State := ⟨[U_, U_, U_, U_, U_, U_, U_, U_, U_, U_, U_, U_, U_, U_, U_, U_, U_, U_, U_], [some ⟨(.int .i64), recv, []⟩, N_, N_, N_, N_, N_, N_, N_, N_, N_, N_, N_, N_, N_, N_, N_, N_, N_, N_, N_]⟩
theorem slices_IndexFunc_api_Value_api_Value_at_msg_With_1_t (R : Type) (kk : Nat) (a_0 : Zt9) (a_1 : Int) (K : List SV → Option Box → Option R) : evFn slices_IndexFunc_api_Value_api_Value_at_msg_With_1_E (Tb41 R) kk Tryd.f31 slices_IndexFunc_api_Value_api_Value_at_msg_With_1_c [.dat (.sl 45 (.pair (.int .i64) (.pair .str .unit))) a_0 [], .ptr 0 (.spc (.clo 32) (.int .i64) .unit) []] (some ⟨(.int .i64), a_1, []⟩) K =
  slices_IndexFunc_api_Value_api_Value_at_msg_With_1_s0 a_0 a_1 (fun a0 a1 a2 a3 => loopR (ev slices_IndexFunc_api_Value_api_Value_at_msg_With_1_E (Tb41 R) kk (sub [1, 0, 1, 0, 0] slices_IndexFunc_api_Value_api_Value_at_msg_With_1_c)) [0, 1, 7, 8] [4] kk (slices_IndexFunc_api_Value_api_Value_at_msg_With_1_h0 a0 a1 a2 a3) (kBlock 0 (kSeq slices_IndexFunc_api_Value_api_Value_at_msg_With_1_E (Tb41 R) kk (sub [1, 1] slices_IndexFunc_api_Value_api_Value_at_msg_With_1_c) (kFin slices_IndexFunc_api_Value_api_Value_at_msg_With_1_E Tryd.f31.results.toList (some ⟨(.int .i64), a_1, []⟩) K)))) := by kernel_rfl
theorem slices_IndexFunc_api_Value_api_Value_at_msg_With_1_d0 (R : Type) (kk k : Nat) (a_0 : Zt9) (t7 : Int) (t8 : Int) (recv : Int) (K : Ex → State → Option R) : loopR (ev slices_IndexFunc_api_Value_api_Value_at_msg_With_1_E (Tb41 R) kk (sub [1, 0, 1, 0, 0] slices_IndexFunc_api_Value_api_Value_at_msg_With_1_c)) [0, 1, 7, 8] [4] (k + 1) (slices_IndexFunc_api_Value_api_Value_at_msg_With_1_h0 a_0 t7 t8 recv) K =
  slices_IndexFunc_api_Value_api_Value_at_msg_With_1_s1 a_0 t7 t8 recv (fun a0 a1 => K .ret (slices_IndexFunc_api_Value_api_Value_at_msg_With_1_x0_0 a0 a1)) (fun a0 a1 a2 a3 => loopR (ev slices_IndexFunc_api_Value_api_Value_at_msg_With_1_E (Tb41 R) kk (sub [1, 0, 1, 0, 0] slices_IndexFunc_api_Value_api_Value_at_msg_With_1_c)) [0, 1, 7, 8] [4] k (slices_IndexFunc_api_Value_api_Value_at_msg_With_1_h0 a0 a1 a2 a3) K) (fun a0 => K (.exit 0) (slices_IndexFunc_api_Value_api_Value_at_msg_With_1_x0_1 a0)) := by kernel_rfl
theorem slices_IndexFunc_api_Value_api_Value_at_msg_With_1_y0_0 (R : Type) (kk : Nat) (x0 : Int) (t4 : Int) (recv : Int) (K : List SV → Option Box → Option R) : (kBlock 0 (kSeq slices_IndexFunc_api_Value_api_Value_at_msg_With_1_E (Tb41 R) kk (sub [1, 1] slices_IndexFunc_api_Value_api_Value_at_msg_With_1_c) (kFin slices_IndexFunc_api_Value_api_Value_at_msg_With_1_E Tryd.f31.results.toList (some ⟨(.int .i64), x0, []⟩) K))) .ret (slices_IndexFunc_api_Value_api_Value_at_msg_With_1_x0_0 t4 recv) =
  slices_IndexFunc_api_Value_api_Value_at_msg_With_1_s2 t4 recv (fun a0 a1 => K [.dat (.int .i64) a0 []] (some ⟨(.int .i64), a1, []⟩)) := by kernel_rfl
theorem slices_IndexFunc_api_Value_api_Value_at_msg_With_1_y0_1 (R : Type) (kk : Nat) (x0 : Int) (recv : Int) (K : List SV → Option Box → Option R) : (kBlock 0 (kSeq slices_IndexFunc_api_Value_api_Value_at_msg_With_1_E (Tb41 R) kk (sub [1, 1] slices_IndexFunc_api_Value_api_Value_at_msg_With_1_c) (kFin slices_IndexFunc_api_Value_api_Value_at_msg_With_1_E Tryd.f31.results.toList (some ⟨(.int .i64), x0, []⟩) K))) (.exit 0) (slices_IndexFunc_api_Value_api_Value_at_msg_With_1_x0_1 recv) =
  slices_IndexFunc_api_Value_api_Value_at_msg_With_1_s3 recv (fun a0 a1 => K [.dat (.int .i64) a0 []] (some ⟨(.int .i64), a1, []⟩)) := by kernel_rfl
theorem slices_IndexFunc_api_Value_api_Value_at_msg_With_1_lp0 (R : Type) (k : Nat) (a_0 : Zt9) (t7 : Int) (t8 : Int) (recv : Int) (K : Ex → State → Option R) : loopR (ev slices_IndexFunc_api_Value_api_Value_at_msg_With_1_E (Tb41 R) FUEL (sub [1, 0, 1, 0, 0] slices_IndexFunc_api_Value_api_Value_at_msg_With_1_c)) [0, 1, 7, 8] [4] k (slices_IndexFunc_api_Value_api_Value_at_msg_With_1_h0 a_0 t7 t8 recv) K = (slices_IndexFunc_api_Value_api_Value_at_msg_With_1_l0 k a_0 t7 t8 recv).bind fun e => (Sum.elim (fun (we : (Int × Int)) => K .ret (slices_IndexFunc_api_Value_api_Value_at_msg_With_1_x0_0 we.1 we.2)) (fun (we : Int) => K (.exit 0) (slices_IndexFunc_api_Value_api_Value_at_msg_With_1_x0_1 we)) e) := by
  induction k generalizing a_0 t7 t8 recv with
  | zero => rfl
  | succ k ih =>
    rw [slices_IndexFunc_api_Value_api_Value_at_msg_With_1_d0]
    simp only [slices_IndexFunc_api_Value_api_Value_at_msg_With_1_l0, slices_IndexFunc_api_Value_api_Value_at_msg_With_1_s0_bind, slices_IndexFunc_api_Value_api_Value_at_msg_With_1_s1_bind, slices_IndexFunc_api_Value_api_Value_at_msg_With_1_s2_bind, slices_IndexFunc_api_Value_api_Value_at_msg_With_1_s3_bind, ih, cond_bind, within_bind, none_bind, some_bind, sum_bind, bind_bind, Sum.elim_inl, Sum.elim_inr]
theorem slices_IndexFunc_api_Value_api_Value_at_msg_With_1_eq (R : Type) (a_0 : Zt9) (a_1 : Int) (K : List SV → Option Box → Option R) : evFn slices_IndexFunc_api_Value_api_Value_at_msg_With_1_E (Tb41 R) FUEL Tryd.f31 slices_IndexFunc_api_Value_api_Value_at_msg_With_1_c [.dat (.sl 45 (.pair (.int .i64) (.pair .str .unit))) a_0 [], .ptr 0 (.spc (.clo 32) (.int .i64) .unit) []] (some ⟨(.int .i64), a_1, []⟩) K = (slices_IndexFunc_api_Value_api_Value_at_msg_With_1 a_0 a_1).bind fun r => K [.dat (.int .i64) r.1 []] (some ⟨(.int .i64), r.2, []⟩) := by
  rw [slices_IndexFunc_api_Value_api_Value_at_msg_With_1_t]
  simp only [slices_IndexFunc_api_Value_api_Value_at_msg_With_1, slices_IndexFunc_api_Value_api_Value_at_msg_With_1_s0_bind, slices_IndexFunc_api_Value_api_Value_at_msg_With_1_s1_bind, slices_IndexFunc_api_Value_api_Value_at_msg_With_1_s2_bind, slices_IndexFunc_api_Value_api_Value_at_msg_With_1_s3_bind, slices_IndexFunc_api_Value_api_Value_at_msg_With_1_lp0, slices_IndexFunc_api_Value_api_Value_at_msg_With_1_y0_0, slices_IndexFunc_api_Value_api_Value_at_msg_With_1_y0_1, cond_bind, within_bind, none_bind, some_bind, sum_bind, bind_bind, Sum.elim_inl, Sum.elim_inr]
def slices_IndexFunc_api_Value_api_Value_at_msg_With_1_g : Pure := fun R l b K => argZ1 (.sl 45 (.pair (.int .i64) (.pair .str .unit))) (.spc (.clo 32) (.int .i64) .unit) (.int .i64) [] l b fun x0 x => (slices_IndexFunc_api_Value_api_Value_at_msg_With_1 x0 x).bind fun r => K [.dat (.int .i64) r.1 []] (some ⟨(.int .i64), r.2, []⟩)
theorem slices_IndexFunc_api_Value_api_Value_at_msg_With_1_n : slices_IndexFunc_api_Value_api_Value_at_msg_With_1_g.Nat := fun R S l b F G K h => argZ1_nat fun _ _ => bindr_nat fun _ => h _ _
def Tb42 : Funs := Tb41.add 31 [(.sl 45 (.pair (.int .i64) (.pair .str .unit))), .unit] slices_IndexFunc_api_Value_api_Value_at_msg_With_1_g
theorem Tb42_nat : Tb42.Nat := add_nat Tb41_nat slices_IndexFunc_api_Value_api_Value_at_msg_With_1_n
theorem Tb42_owes : ∀ f, Owes Tryd.prog Tb42 f := add_owes (E := slices_IndexFunc_api_Value_api_Value_at_msg_With_1_E) (Tab.env_ok tab_ok _ _ _ _) mixed Tb41_nat Tb41_owes (fn := Tryd.f31) (code := slices_IndexFunc_api_Value_api_Value_at_msg_With_1_c) Tryd.func31 (by kernel_rfl) (by kernel_rfl) fun l b r b' h => by
  obtain ⟨x0, x, rfl, h1, h2⟩ := ownZ1 (E := slices_IndexFunc_api_Value_api_Value_at_msg_With_1_E) rfl h
  exact ⟨FUEL, (h2 _ _ _ _ _ _).trans ((slices_IndexFunc_api_Value_api_Value_at_msg_With_1_eq _ x0 x _).trans h1)⟩
noncomputable abbrev msg_With_c : Code := Tryd.f16.body.getD .skip
def msg_With_E : Env := { tab.env (fun _ => []) (fun _ => []) [6] [y4, (.int .i64), .str] with fz := fun i => bif Nat.beq i 9 then some (9, 30) else none }
theorem msg_With_t (R : Type) (kk : Nat) (m_0 : Zt15) (no_1 : Int) (text_2 : ByteArray) (K : List SV → Option Box → Option R) : evFn msg_With_E (Tb42 R) kk Tryd.f16 msg_With_c [.dat y4 m_0 [], .dat (.int .i64) no_1 [], .dat .str text_2 []] none K =
  msg_With_s0 m_0 no_1 text_2 (fun a0 => K [.dat y4 a0 []] none) := by kernel_rfl
theorem msg_With_eq (R : Type) (m_0 : Zt15) (no_1 : Int) (text_2 : ByteArray) (K : List SV → Option Box → Option R) : evFn msg_With_E (Tb42 R) FUEL Tryd.f16 msg_With_c [.dat y4 m_0 [], .dat (.int .i64) no_1 [], .dat .str text_2 []] none K = (msg_With m_0 no_1 text_2).bind fun r => K [.dat y4 r []] none := by
  rw [msg_With_t]
  simp only [msg_With, msg_With_s0_bind, cond_bind, within_bind, none_bind, some_bind, sum_bind, bind_bind, Sum.elim_inl, Sum.elim_inr]
def msg_With_g : Pure := fun R l b K => noBox b (args3 y4 (.int .i64) .str l (fun x0 x1 x2 => (msg_With x0 x1 x2).bind fun r => K [.dat y4 r []] none))
theorem msg_With_n : msg_With_g.Nat := fun R S l b F G K h => noBox_nat (args3_nat fun _ _ _ => bindr_nat fun _ => h _ _)
def Tb43 : Funs := Tb42.add 16 [y4, (.int .i64), .str] msg_With_g
theorem Tb43_nat : Tb43.Nat := add_nat Tb42_nat msg_With_n
theorem Tb43_owes : ∀ f, Owes Tryd.prog Tb43 f := add_owes (E := msg_With_E) ((Tab.env_ok tab_ok _ _ _ _).fz _) mixed Tb42_nat Tb42_owes (fn := Tryd.f16) (code := msg_With_c) Tryd.func16 (by kernel_rfl) (by kernel_rfl) fun l b r b' h => by
  obtain ⟨rfl, h⟩ := noBox_some h
  obtain ⟨x0, x1, x2, h1, h2⟩ := own3 (E := msg_With_E) rfl h
  exact ⟨FUEL, (h2 _ _ _ _ _ _).trans ((msg_With_eq _ x0 x1 x2 _).trans h1)⟩
noncomputable abbrev xlate_find_c : Code := Tryd.f17.body.getD .skip
def xlate_find_E : Env := { tab.env (fun i => bif Nat.beq i 2 then [1, 4, 9, 10, 11] else []) (fun i => bif Nat.beq i 2 then [4, 5] else []) [4] [y14, (.int .i64)] with ro := true }
def xlate_find_h0 (no_1 : Int) (t9 : Zt20) (t10 : Int) (t11 : Int) (bt4 : Zt18) : State := ⟨[U_, [.dat (.int .i64) no_1 []], U_, U_, [.ptr 5 y9 []], U_, U_, U_, U_, [.dat (.sl 48 y9) t9 []], [.dat (.int .i64) t10 []], [.dat (.int .i64) t11 []], U_, U_, U_, U_, U_, U_, U_, U_, U_, U_], [N_, N_, N_, N_, N_, some ⟨y9, bt4, [[4]]⟩, N_, N_, N_, N_, N_, N_, N_, N_, N_, N_, N_, N_, N_, N_, N_, N_, N_]⟩
def xlate_find_x0_0 (t5 : Bool) (bt4 : Zt18) : State := ⟨[U_, U_, U_, U_, [.ptr 5 y9 []], [.dat .bool t5 []], U_, U_, U_, U_, U_, U_, U_, U_, U_, U_, U_, U_, U_, U_, U_, U_], [N_, N_, N_, N_, N_, some ⟨y9, bt4, []⟩, N_, N_, N_, N_, N_, N_, N_, N_, N_, N_, N_, N_, N_, N_, N_, N_, N_]⟩
def xlate_find_x0_1 (bt4 : Zt18) : State := ⟨[U_, U_, U_, U_, [.ptr 5 y9 []], U_, U_, U_, U_, U_, U_, U_, U_, U_, U_, U_, U_, U_, U_, U_, U_, U_], [N_, N_, N_, N_, N_, some ⟨y9, bt4, [[4]]⟩, N_, N_, N_, N_, N_, N_, N_, N_, N_, N_, N_, N_, N_, N_, N_, N_, N_]⟩
theorem xlate_find_t (R : Type) (kk : Nat) (m_0 : Zt22) (no_1 : Int) (K : List SV → Option Box → Option R) : evFn xlate_find_E (Tb43 R) kk Tryd.f17 xlate_find_c [.dat y14 m_0 [], .dat (.int .i64) no_1 []] none K =
  xlate_find_s0 m_0 no_1 (fun a0 a1 a2 a3 a4 => loopR (ev xlate_find_E (Tb43 R) kk (sub [1, 0, 1, 0, 0] xlate_find_c)) [1, 4, 9, 10, 11] [4, 5] kk (xlate_find_h0 a0 a1 a2 a3 a4) (kBlock 0 (kSeq xlate_find_E (Tb43 R) kk (sub [1, 1] xlate_find_c) (kFin xlate_find_E Tryd.f17.results.toList none K)))) := by kernel_rfl
theorem xlate_find_d0 (R : Type) (kk k : Nat) (no_1 : Int) (t9 : Zt20) (t10 : Int) (t11 : Int) (bt4 : Zt18) (K : Ex → State → Option R) : loopR (ev xlate_find_E (Tb43 R) kk (sub [1, 0, 1, 0, 0] xlate_find_c)) [1, 4, 9, 10, 11] [4, 5] (k + 1) (xlate_find_h0 no_1 t9 t10 t11 bt4) K =
  xlate_find_s1 no_1 t9 t10 t11 bt4 (fun a0 a1 => K .ret (xlate_find_x0_0 a0 a1)) (fun a0 a1 a2 a3 a4 => loopR (ev xlate_find_E (Tb43 R) kk (sub [1, 0, 1, 0, 0] xlate_find_c)) [1, 4, 9, 10, 11] [4, 5] k (xlate_find_h0 a0 a1 a2 a3 a4) K) (fun a0 => K (.exit 0) (xlate_find_x0_1 a0)) := by kernel_rfl
theorem xlate_find_y0_0 (R : Type) (kk : Nat) (t5 : Bool) (bt4 : Zt18) (K : List SV → Option Box → Option R) : (kBlock 0 (kSeq xlate_find_E (Tb43 R) kk (sub [1, 1] xlate_find_c) (kFin xlate_find_E Tryd.f17.results.toList none K))) .ret (xlate_find_x0_0 t5 bt4) =
  xlate_find_s2 t5 bt4 (fun a0 a1 => K [.dat y9 a0 [], .dat .bool a1 []] none) := by kernel_rfl
theorem xlate_find_y0_1 (R : Type) (kk : Nat) (bt4 : Zt18) (K : List SV → Option Box → Option R) : (kBlock 0 (kSeq xlate_find_E (Tb43 R) kk (sub [1, 1] xlate_find_c) (kFin xlate_find_E Tryd.f17.results.toList none K))) (.exit 0) (xlate_find_x0_1 bt4) =
  xlate_find_s3 bt4 (fun a0 a1 => K [.dat y9 a0 [], .dat .bool a1 []] none) := by kernel_rfl
theorem xlate_find_lp0 (R : Type) (k : Nat) (no_1 : Int) (t9 : Zt20) (t10 : Int) (t11 : Int) (bt4 : Zt18) (K : Ex → State → Option R) : loopR (ev xlate_find_E (Tb43 R) FUEL (sub [1, 0, 1, 0, 0] xlate_find_c)) [1, 4, 9, 10, 11] [4, 5] k (xlate_find_h0 no_1 t9 t10 t11 bt4) K = (xlate_find_l0 k no_1 t9 t10 t11 bt4).bind fun e => (Sum.elim (fun (we : (Bool × Zt18)) => K .ret (xlate_find_x0_0 we.1 we.2)) (fun (we : Zt18) => K (.exit 0) (xlate_find_x0_1 we)) e) := by
  induction k generalizing no_1 t9 t10 t11 bt4 with
  | zero => rfl
  | succ k ih =>
    rw [xlate_find_d0]
    simp only [xlate_find_l0, xlate_find_s0_bind, xlate_find_s1_bind, xlate_find_s2_bind, xlate_find_s3_bind, ih, cond_bind, within_bind, none_bind, some_bind, sum_bind, bind_bind, Sum.elim_inl, Sum.elim_inr]
theorem xlate_find_eq (R : Type) (m_0 : Zt22) (no_1 : Int) (K : List SV → Option Box → Option R) : evFn xlate_find_E (Tb43 R) FUEL Tryd.f17 xlate_find_c [.dat y14 m_0 [], .dat (.int .i64) no_1 []] none K = (xlate_find m_0 no_1).bind fun r => K [.dat y9 r.1 [], .dat .bool r.2 []] none := by
  rw [xlate_find_t]
  simp only [xlate_find, xlate_find_s0_bind, xlate_find_s1_bind, xlate_find_s2_bind, xlate_find_s3_bind, xlate_find_lp0, xlate_find_y0_0, xlate_find_y0_1, cond_bind, within_bind, none_bind, some_bind, sum_bind, bind_bind, Sum.elim_inl, Sum.elim_inr]
def xlate_find_g : Pure := fun R l b K => noBox b (args2 y14 (.int .i64) l (fun x0 x1 => (xlate_find x0 x1).bind fun r => K [.dat y9 r.1 [], .dat .bool r.2 []] none))
theorem xlate_find_n : xlate_find_g.Nat := fun R S l b F G K h => noBox_nat (args2_nat fun _ _ => bindr_nat fun _ => h _ _)
def Tb44 : Funs := Tb43.add 17 [y14, (.int .i64)] xlate_find_g
theorem Tb44_nat : Tb44.Nat := add_nat Tb43_nat xlate_find_n
theorem Tb44_owes : ∀ f, Owes Tryd.prog Tb44 f := add_owes (E := xlate_find_E) ((Tab.env_ok tab_ok _ _ _ _).ro _) mixed Tb43_nat Tb43_owes (fn := Tryd.f17) (code := xlate_find_c) Tryd.func17 (by kernel_rfl) (by kernel_rfl) fun l b r b' h => by
  obtain ⟨rfl, h⟩ := noBox_some h
  obtain ⟨x0, x1, h1, h2⟩ := own2 (E := xlate_find_E) rfl h
  exact ⟨FUEL, (h2 _ _ _ _ _ _).trans ((xlate_find_eq _ x0 x1 _).trans h1)⟩
def Tryd.laysRepeat_ren : Go.Shelf.Ren := ⟨fun | 105 => 46 | 212 => 57 | 99 => 58 | 165 => 59 | 166 => 60 | 170 => 61 | 169 => 62 | 263 => 75 | 264 => 76 | 206 => 77 | 240 => 78 | 241 => 79 | 276 => 84 | 277 => 85 | n => n, fun | 9 => 9 | 3 => 3 | 4 => 4 | 20 => 20 | 0 => 0 | 46 => 112 | 109 => 113 | 5 => 5 | 72 => 119 | 76 => 123 | 51 => 134 | 146 => 135 | 53 => 77 | 148 => 137 | 70 => 116 | 37 => 117 | 75 => 122 | 127 => 139 | 164 => 144 | 80 => 126 | n => n, fun n => n⟩
theorem Tryd.laysRepeat : Go.Proofs.Lays.n105 Go.Proofs.Tryd.prog Tryd.laysRepeat_ren := {
  mixed := by kernel_rfl,
  f99 := Go.Proofs.Tryd.func58.trans (congrArg some (by kernel_rfl)),
  f105 := Go.Proofs.Tryd.func46.trans (congrArg some (by kernel_rfl)),
  f165 := Go.Proofs.Tryd.func59.trans (congrArg some (by kernel_rfl)),
  f166 := Go.Proofs.Tryd.func60.trans (congrArg some (by kernel_rfl)),
  f169 := Go.Proofs.Tryd.func62.trans (congrArg some (by kernel_rfl)),
  f170 := Go.Proofs.Tryd.func61.trans (congrArg some (by kernel_rfl)),
  f206 := Go.Proofs.Tryd.func77.trans (congrArg some (by kernel_rfl)),
  f212 := Go.Proofs.Tryd.func57.trans (congrArg some (by kernel_rfl)),
  f240 := Go.Proofs.Tryd.func78.trans (congrArg some (by kernel_rfl)),
  f241 := Go.Proofs.Tryd.func79.trans (congrArg some (by kernel_rfl)),
  f263 := Go.Proofs.Tryd.func75.trans (congrArg some (by kernel_rfl)),
  f264 := Go.Proofs.Tryd.func76.trans (congrArg some (by kernel_rfl)),
  f276 := Go.Proofs.Tryd.func84.trans (congrArg some (by kernel_rfl)),
  f277 := Go.Proofs.Tryd.func85.trans (congrArg some (by kernel_rfl)),
  t0 := Go.Proofs.Tryd.underlying0,
  a0 := Go.Proofs.Tryd.isAgg0,
  z0 := Go.Proofs.Tryd.sizeOf0,
  v0 := Go.Proofs.Tryd.zeroValue0,
  t3 := Go.Proofs.Tryd.underlying3,
  a3 := Go.Proofs.Tryd.isAgg3,
  z3 := Go.Proofs.Tryd.sizeOf3,
  v3 := Go.Proofs.Tryd.zeroValue3,
  t4 := Go.Proofs.Tryd.underlying4,
  a4 := Go.Proofs.Tryd.isAgg4,
  z4 := Go.Proofs.Tryd.sizeOf4,
  v4 := Go.Proofs.Tryd.zeroValue4,
  t5 := Go.Proofs.Tryd.underlying5,
  a5 := Go.Proofs.Tryd.isAgg5,
  z5 := Go.Proofs.Tryd.sizeOf5,
  v5 := Go.Proofs.Tryd.zeroValue5,
  t9 := Go.Proofs.Tryd.underlying9,
  a9 := Go.Proofs.Tryd.isAgg9,
  z9 := Go.Proofs.Tryd.sizeOf9,
  v9 := Go.Proofs.Tryd.zeroValue9,
  t20 := Go.Proofs.Tryd.underlying20,
  a20 := Go.Proofs.Tryd.isAgg20,
  z20 := Go.Proofs.Tryd.sizeOf20,
  v20 := Go.Proofs.Tryd.zeroValue20,
  t37 := Go.Proofs.Tryd.underlying117,
  a37 := Go.Proofs.Tryd.isAgg117,
  z37 := Go.Proofs.Tryd.sizeOf117,
  v37 := Go.Proofs.Tryd.zeroValue117,
  t46 := Go.Proofs.Tryd.underlying112,
  a46 := Go.Proofs.Tryd.isAgg112,
  z46 := Go.Proofs.Tryd.sizeOf112,
  v46 := Go.Proofs.Tryd.zeroValue112,
  t51 := Go.Proofs.Tryd.underlying134,
  a51 := Go.Proofs.Tryd.isAgg134,
  z51 := Go.Proofs.Tryd.sizeOf134,
  v51 := Go.Proofs.Tryd.zeroValue134,
  t53 := Go.Proofs.Tryd.underlying77,
  a53 := Go.Proofs.Tryd.isAgg77,
  z53 := Go.Proofs.Tryd.sizeOf77,
  v53 := Go.Proofs.Tryd.zeroValue77,
  t70 := Go.Proofs.Tryd.underlying116,
  a70 := Go.Proofs.Tryd.isAgg116,
  z70 := Go.Proofs.Tryd.sizeOf116,
  v70 := Go.Proofs.Tryd.zeroValue116,
  t72 := Go.Proofs.Tryd.underlying119,
  a72 := Go.Proofs.Tryd.isAgg119,
  z72 := Go.Proofs.Tryd.sizeOf119,
  v72 := Go.Proofs.Tryd.zeroValue119,
  t75 := Go.Proofs.Tryd.underlying122,
  a75 := Go.Proofs.Tryd.isAgg122,
  z75 := Go.Proofs.Tryd.sizeOf122,
  v75 := Go.Proofs.Tryd.zeroValue122,
  t76 := Go.Proofs.Tryd.underlying123,
  a76 := Go.Proofs.Tryd.isAgg123,
  z76 := Go.Proofs.Tryd.sizeOf123,
  v76 := Go.Proofs.Tryd.zeroValue123,
  t109 := Go.Proofs.Tryd.underlying113,
  a109 := Go.Proofs.Tryd.isAgg113,
  z109 := Go.Proofs.Tryd.sizeOf113,
  v109 := Go.Proofs.Tryd.zeroValue113,
  t127 := Go.Proofs.Tryd.underlying139,
  a127 := Go.Proofs.Tryd.isAgg139,
  z127 := Go.Proofs.Tryd.sizeOf139,
  v127 := Go.Proofs.Tryd.zeroValue139,
  t146 := Go.Proofs.Tryd.underlying135,
  a146 := Go.Proofs.Tryd.isAgg135,
  z146 := Go.Proofs.Tryd.sizeOf135,
  v146 := Go.Proofs.Tryd.zeroValue135,
  t148 := Go.Proofs.Tryd.underlying137,
  a148 := Go.Proofs.Tryd.isAgg137,
  z148 := Go.Proofs.Tryd.sizeOf137,
  v148 := Go.Proofs.Tryd.zeroValue137,
  t164 := Go.Proofs.Tryd.underlying144,
  a164 := Go.Proofs.Tryd.isAgg144,
  z164 := Go.Proofs.Tryd.sizeOf144,
  v164 := Go.Proofs.Tryd.zeroValue144 }
theorem Tryd.extraRepeat : Go.Proofs.Builder.Extra Go.Proofs.Tryd.prog Tryd.laysRepeat_ren := {
  sizeBuilder := by kernel_rfl,
  liesBuilder := by kernel_rfl,
  t5 := Tryd.laysRepeat.t5,
  a5 := Tryd.laysRepeat.a5,
  z5 := Tryd.laysRepeat.z5,
  v5 := Tryd.laysRepeat.v5,
  infoByte := by kernel_rfl,
  cellsByte := by kernel_rfl,
  sizeByte := by kernel_rfl,
  neB5 := by decide }
noncomputable abbrev strings_Repeat_c : Code := Tryd.f46.body.getD .skip
theorem strings_Repeat_ent : Ent Tryd.prog 46 := ⟨Tryd.f46, strings_Repeat_c, Tryd.func46, by kernel_rfl, by kernel_rfl⟩
def strings_Repeat_g : Pure := fun R l b K => noBox b (args2 .str (.int .i64) l fun x0 x1 => (strings_Repeat x0 x1).bind fun r => K [.dat .str r []] none)
theorem strings_Repeat_n : strings_Repeat_g.Nat := fun R S l b F G K h => noBox_nat (args2_nat fun _ _ => bindr_nat fun _ => h _ _)
def Tb45 : Funs := Tb44.add 46 [] strings_Repeat_g
theorem Tb45_nat : Tb45.Nat := add_nat Tb44_nat strings_Repeat_n
theorem Tb45_owes : ∀ f, Owes Tryd.prog Tb45 f := lib_si_s Tb44_owes strings_Repeat_ent strings_Repeat (strings_Repeat_calls Tryd.laysRepeat Tryd.extraRepeat (by kernel_rfl))
noncomputable abbrev strings_trimRightByte_c : Code := Tryd.f64.body.getD .skip
def strings_trimRightByte_E : Env := tab.env (fun i => bif Nat.beq i 1 then [0, 1] else []) (fun i => bif Nat.beq i 1 then [0] else []) [] [.str, (.int .u8)]
def strings_trimRightByte_h0 (s_0 : ByteArray) (c_1 : Int) : State := ⟨[[.dat .str s_0 []], [.dat (.int .u8) c_1 []], U_, U_, U_, U_, U_, U_, U_, U_, U_, U_, U_, U_, U_, U_, U_, U_, U_, U_, U_, U_, U_], [N_, N_, N_, N_, N_, N_, N_, N_, N_, N_, N_, N_, N_, N_, N_, N_, N_, N_, N_, N_, N_, N_, N_, N_]⟩
def strings_trimRightByte_x0_0 (s_0 : ByteArray) : State := ⟨[[.dat .str s_0 []], U_, U_, U_, U_, U_, U_, U_, U_, U_, U_, U_, U_, U_, U_, U_, U_, U_, U_, U_, U_, U_, U_], [N_, N_, N_, N_, N_, N_, N_, N_, N_, N_, N_, N_, N_, N_, N_, N_, N_, N_, N_, N_, N_, N_, N_, N_]⟩
theorem strings_trimRightByte_t (R : Type) (kk : Nat) (s_0 : ByteArray) (c_1 : Int) (K : List SV → Option Box → Option R) : evFn strings_trimRightByte_E (Tb45 R) kk Tryd.f64 strings_trimRightByte_c [.dat .str s_0 [], .dat (.int .u8) c_1 []] none K =
  strings_trimRightByte_s0 s_0 c_1 (fun a0 a1 => loopR (ev strings_trimRightByte_E (Tb45 R) kk (sub [1, 0, 0, 0] strings_trimRightByte_c)) [0, 1] [0] kk (strings_trimRightByte_h0 a0 a1) (kBlock 0 (kSeq strings_trimRightByte_E (Tb45 R) kk (sub [1, 1] strings_trimRightByte_c) (kFin strings_trimRightByte_E Tryd.f64.results.toList none K)))) := by kernel_rfl
theorem strings_trimRightByte_d0 (R : Type) (kk k : Nat) (s_0 : ByteArray) (c_1 : Int) (K : Ex → State → Option R) : loopR (ev strings_trimRightByte_E (Tb45 R) kk (sub [1, 0, 0, 0] strings_trimRightByte_c)) [0, 1] [0] (k + 1) (strings_trimRightByte_h0 s_0 c_1) K =
  strings_trimRightByte_s1 s_0 c_1 (fun a0 a1 => loopR (ev strings_trimRightByte_E (Tb45 R) kk (sub [1, 0, 0, 0] strings_trimRightByte_c)) [0, 1] [0] k (strings_trimRightByte_h0 a0 a1) K) (fun a0 => K (.exit 0) (strings_trimRightByte_x0_0 a0)) := by kernel_rfl
theorem strings_trimRightByte_y0_0 (R : Type) (kk : Nat) (s_0 : ByteArray) (K : List SV → Option Box → Option R) : (kBlock 0 (kSeq strings_trimRightByte_E (Tb45 R) kk (sub [1, 1] strings_trimRightByte_c) (kFin strings_trimRightByte_E Tryd.f64.results.toList none K))) (.exit 0) (strings_trimRightByte_x0_0 s_0) =
  strings_trimRightByte_s2 s_0 (fun a0 => K [.dat .str a0 []] none) := by kernel_rfl
theorem strings_trimRightByte_lp0 (R : Type) (k : Nat) (s_0 : ByteArray) (c_1 : Int) (K : Ex → State → Option R) : loopR (ev strings_trimRightByte_E (Tb45 R) FUEL (sub [1, 0, 0, 0] strings_trimRightByte_c)) [0, 1] [0] k (strings_trimRightByte_h0 s_0 c_1) K = (strings_trimRightByte_l0 k s_0 c_1).bind fun e => K (.exit 0) (strings_trimRightByte_x0_0 e) := by
  induction k generalizing s_0 c_1 with
  | zero => rfl
  | succ k ih =>
    rw [strings_trimRightByte_d0]
    simp only [strings_trimRightByte_l0, strings_trimRightByte_s0_bind, strings_trimRightByte_s1_bind, strings_trimRightByte_s2_bind, ih, cond_bind, within_bind, none_bind, some_bind, sum_bind, bind_bind, Sum.elim_inl, Sum.elim_inr]
theorem strings_trimRightByte_eq (R : Type) (s_0 : ByteArray) (c_1 : Int) (K : List SV → Option Box → Option R) : evFn strings_trimRightByte_E (Tb45 R) FUEL Tryd.f64 strings_trimRightByte_c [.dat .str s_0 [], .dat (.int .u8) c_1 []] none K = (strings_trimRightByte s_0 c_1).bind fun r => K [.dat .str r []] none := by
  rw [strings_trimRightByte_t]
  simp only [strings_trimRightByte, strings_trimRightByte_s0_bind, strings_trimRightByte_s1_bind, strings_trimRightByte_s2_bind, strings_trimRightByte_lp0, strings_trimRightByte_y0_0, cond_bind, within_bind, none_bind, some_bind, sum_bind, bind_bind, Sum.elim_inl, Sum.elim_inr]
def strings_trimRightByte_g : Pure := fun R l b K => noBox b (args2 .str (.int .u8) l (fun x0 x1 => (strings_trimRightByte x0 x1).bind fun r => K [.dat .str r []] none))
theorem strings_trimRightByte_n : strings_trimRightByte_g.Nat := fun R S l b F G K h => noBox_nat (args2_nat fun _ _ => bindr_nat fun _ => h _ _)
def Tb46 : Funs := Tb45.add 64 [.str, (.int .u8)] strings_trimRightByte_g
theorem Tb46_nat : Tb46.Nat := add_nat Tb45_nat strings_trimRightByte_n
theorem Tb46_owes : ∀ f, Owes Tryd.prog Tb46 f := add_owes (E := strings_trimRightByte_E) (Tab.env_ok tab_ok _ _ _ _) mixed Tb45_nat Tb45_owes (fn := Tryd.f64) (code := strings_trimRightByte_c) Tryd.func64 (by kernel_rfl) (by kernel_rfl) fun l b r b' h => by
  obtain ⟨rfl, h⟩ := noBox_some h
  obtain ⟨x0, x1, h1, h2⟩ := own2 (E := strings_trimRightByte_E) rfl h
  exact ⟨FUEL, (h2 _ _ _ _ _ _).trans ((strings_trimRightByte_eq _ x0 x1 _).trans h1)⟩
noncomputable abbrev strings_trimLeftByte_c : Code := Tryd.f63.body.getD .skip
def strings_trimLeftByte_E : Env := tab.env (fun i => bif Nat.beq i 1 then [0, 1] else []) (fun i => bif Nat.beq i 1 then [0] else []) [] [.str, (.int .u8)]
def strings_trimLeftByte_h0 (s_0 : ByteArray) (c_1 : Int) : State := ⟨[[.dat .str s_0 []], [.dat (.int .u8) c_1 []], U_, U_, U_, U_, U_, U_, U_, U_, U_, U_, U_, U_, U_, U_, U_], [N_, N_, N_, N_, N_, N_, N_, N_, N_, N_, N_, N_, N_, N_, N_, N_, N_, N_]⟩
def strings_trimLeftByte_x0_0 (s_0 : ByteArray) : State := ⟨[[.dat .str s_0 []], U_, U_, U_, U_, U_, U_, U_, U_, U_, U_, U_, U_, U_, U_, U_, U_], [N_, N_, N_, N_, N_, N_, N_, N_, N_, N_, N_, N_, N_, N_, N_, N_, N_, N_]⟩
theorem strings_trimLeftByte_t (R : Type) (kk : Nat) (s_0 : ByteArray) (c_1 : Int) (K : List SV → Option Box → Option R) : evFn strings_trimLeftByte_E (Tb46 R) kk Tryd.f63 strings_trimLeftByte_c [.dat .str s_0 [], .dat (.int .u8) c_1 []] none K =
  strings_trimLeftByte_s0 s_0 c_1 (fun a0 a1 => loopR (ev strings_trimLeftByte_E (Tb46 R) kk (sub [1, 0, 0, 0] strings_trimLeftByte_c)) [0, 1] [0] kk (strings_trimLeftByte_h0 a0 a1) (kBlock 0 (kSeq strings_trimLeftByte_E (Tb46 R) kk (sub [1, 1] strings_trimLeftByte_c) (kFin strings_trimLeftByte_E Tryd.f63.results.toList none K)))) := by kernel_rfl
theorem strings_trimLeftByte_d0 (R : Type) (kk k : Nat) (s_0 : ByteArray) (c_1 : Int) (K : Ex → State → Option R) : loopR (ev strings_trimLeftByte_E (Tb46 R) kk (sub [1, 0, 0, 0] strings_trimLeftByte_c)) [0, 1] [0] (k + 1) (strings_trimLeftByte_h0 s_0 c_1) K =
  strings_trimLeftByte_s1 s_0 c_1 (fun a0 a1 => loopR (ev strings_trimLeftByte_E (Tb46 R) kk (sub [1, 0, 0, 0] strings_trimLeftByte_c)) [0, 1] [0] k (strings_trimLeftByte_h0 a0 a1) K) (fun a0 => K (.exit 0) (strings_trimLeftByte_x0_0 a0)) := by kernel_rfl
theorem strings_trimLeftByte_y0_0 (R : Type) (kk : Nat) (s_0 : ByteArray) (K : List SV → Option Box → Option R) : (kBlock 0 (kSeq strings_trimLeftByte_E (Tb46 R) kk (sub [1, 1] strings_trimLeftByte_c) (kFin strings_trimLeftByte_E Tryd.f63.results.toList none K))) (.exit 0) (strings_trimLeftByte_x0_0 s_0) =
  strings_trimLeftByte_s2 s_0 (fun a0 => K [.dat .str a0 []] none) := by kernel_rfl
theorem strings_trimLeftByte_lp0 (R : Type) (k : Nat) (s_0 : ByteArray) (c_1 : Int) (K : Ex → State → Option R) : loopR (ev strings_trimLeftByte_E (Tb46 R) FUEL (sub [1, 0, 0, 0] strings_trimLeftByte_c)) [0, 1] [0] k (strings_trimLeftByte_h0 s_0 c_1) K = (strings_trimLeftByte_l0 k s_0 c_1).bind fun e => K (.exit 0) (strings_trimLeftByte_x0_0 e) := by
  induction k generalizing s_0 c_1 with
  | zero => rfl
  | succ k ih =>
    rw [strings_trimLeftByte_d0]
    simp only [strings_trimLeftByte_l0, strings_trimLeftByte_s0_bind, strings_trimLeftByte_s1_bind, strings_trimLeftByte_s2_bind, ih, cond_bind, within_bind, none_bind, some_bind, sum_bind, bind_bind, Sum.elim_inl, Sum.elim_inr]
theorem strings_trimLeftByte_eq (R : Type) (s_0 : ByteArray) (c_1 : Int) (K : List SV → Option Box → Option R) : evFn strings_trimLeftByte_E (Tb46 R) FUEL Tryd.f63 strings_trimLeftByte_c [.dat .str s_0 [], .dat (.int .u8) c_1 []] none K = (strings_trimLeftByte s_0 c_1).bind fun r => K [.dat .str r []] none := by
  rw [strings_trimLeftByte_t]
  simp only [strings_trimLeftByte, strings_trimLeftByte_s0_bind, strings_trimLeftByte_s1_bind, strings_trimLeftByte_s2_bind, strings_trimLeftByte_lp0, strings_trimLeftByte_y0_0, cond_bind, within_bind, none_bind, some_bind, sum_bind, bind_bind, Sum.elim_inl, Sum.elim_inr]
def strings_trimLeftByte_g : Pure := fun R l b K => noBox b (args2 .str (.int .u8) l (fun x0 x1 => (strings_trimLeftByte x0 x1).bind fun r => K [.dat .str r []] none))
theorem strings_trimLeftByte_n : strings_trimLeftByte_g.Nat := fun R S l b F G K h => noBox_nat (args2_nat fun _ _ => bindr_nat fun _ => h _ _)
def Tb47 : Funs := Tb46.add 63 [.str, (.int .u8)] strings_trimLeftByte_g
theorem Tb47_nat : Tb47.Nat := add_nat Tb46_nat strings_trimLeftByte_n
theorem Tb47_owes : ∀ f, Owes Tryd.prog Tb47 f := add_owes (E := strings_trimLeftByte_E) (Tab.env_ok tab_ok _ _ _ _) mixed Tb46_nat Tb46_owes (fn := Tryd.f63) (code := strings_trimLeftByte_c) Tryd.func63 (by kernel_rfl) (by kernel_rfl) fun l b r b' h => by
  obtain ⟨rfl, h⟩ := noBox_some h
  obtain ⟨x0, x1, h1, h2⟩ := own2 (E := strings_trimLeftByte_E) rfl h
  exact ⟨FUEL, (h2 _ _ _ _ _ _).trans ((strings_trimLeftByte_eq _ x0 x1 _).trans h1)⟩
noncomputable abbrev strings_Trim_c : Code := Tryd.f47.body.getD .skip
def strings_Trim_E : Env := tab.env (fun _ => []) (fun _ => []) [] [.str, .str]
theorem strings_Trim_t (R : Type) (kk : Nat) (s_0 : ByteArray) (cutset_1 : ByteArray) (K : List SV → Option Box → Option R) : evFn strings_Trim_E (Tb47 R) kk Tryd.f47 strings_Trim_c [.dat .str s_0 [], .dat .str cutset_1 []] none K =
  strings_Trim_s0 s_0 cutset_1 (fun a0 => K [.dat .str a0 []] none) := by kernel_rfl
theorem strings_Trim_eq (R : Type) (s_0 : ByteArray) (cutset_1 : ByteArray) (K : List SV → Option Box → Option R) : evFn strings_Trim_E (Tb47 R) FUEL Tryd.f47 strings_Trim_c [.dat .str s_0 [], .dat .str cutset_1 []] none K = (strings_Trim s_0 cutset_1).bind fun r => K [.dat .str r []] none := by
  rw [strings_Trim_t]
  simp only [strings_Trim, strings_Trim_s0_bind, cond_bind, within_bind, none_bind, some_bind, sum_bind, bind_bind, Sum.elim_inl, Sum.elim_inr]
def strings_Trim_g : Pure := fun R l b K => noBox b (args2 .str .str l (fun x0 x1 => (strings_Trim x0 x1).bind fun r => K [.dat .str r []] none))
theorem strings_Trim_n : strings_Trim_g.Nat := fun R S l b F G K h => noBox_nat (args2_nat fun _ _ => bindr_nat fun _ => h _ _)
def Tb48 : Funs := Tb47.add 47 [.str, .str] strings_Trim_g
theorem Tb48_nat : Tb48.Nat := add_nat Tb47_nat strings_Trim_n
theorem Tb48_owes : ∀ f, Owes Tryd.prog Tb48 f := add_owes (E := strings_Trim_E) (Tab.env_ok tab_ok _ _ _ _) mixed Tb47_nat Tb47_owes (fn := Tryd.f47) (code := strings_Trim_c) Tryd.func47 (by kernel_rfl) (by kernel_rfl) fun l b r b' h => by
  obtain ⟨rfl, h⟩ := noBox_some h
  obtain ⟨x0, x1, h1, h2⟩ := own2 (E := strings_Trim_E) rfl h
  exact ⟨FUEL, (h2 _ _ _ _ _ _).trans ((strings_Trim_eq _ x0 x1 _).trans h1)⟩
noncomputable abbrev digits_Pad_c : Code := Tryd.f33.body.getD .skip
def digits_Pad_E : Env := tab.env (fun _ => []) (fun _ => []) [] [.str, (.int .i64)]
theorem digits_Pad_t (R : Type) (kk : Nat) (s_0 : ByteArray) (width_1 : Int) (K : List SV → Option Box → Option R) : evFn digits_Pad_E (Tb48 R) kk Tryd.f33 digits_Pad_c [.dat .str s_0 [], .dat (.int .i64) width_1 []] none K =
  digits_Pad_s0 s_0 width_1 (fun a0 a1 => K [.dat .str a0 [], .dat .bool a1 []] none) := by kernel_rfl
theorem digits_Pad_eq (R : Type) (s_0 : ByteArray) (width_1 : Int) (K : List SV → Option Box → Option R) : evFn digits_Pad_E (Tb48 R) FUEL Tryd.f33 digits_Pad_c [.dat .str s_0 [], .dat (.int .i64) width_1 []] none K = (digits_Pad s_0 width_1).bind fun r => K [.dat .str r.1 [], .dat .bool r.2 []] none := by
  rw [digits_Pad_t]
  simp only [digits_Pad, digits_Pad_s0_bind, cond_bind, within_bind, none_bind, some_bind, sum_bind, bind_bind, Sum.elim_inl, Sum.elim_inr]
def digits_Pad_g : Pure := fun R l b K => noBox b (args2 .str (.int .i64) l (fun x0 x1 => (digits_Pad x0 x1).bind fun r => K [.dat .str r.1 [], .dat .bool r.2 []] none))
theorem digits_Pad_n : digits_Pad_g.Nat := fun R S l b F G K h => noBox_nat (args2_nat fun _ _ => bindr_nat fun _ => h _ _)
def Tb49 : Funs := Tb48.add 33 [.str, (.int .i64)] digits_Pad_g
theorem Tb49_nat : Tb49.Nat := add_nat Tb48_nat digits_Pad_n
theorem Tb49_owes : ∀ f, Owes Tryd.prog Tb49 f := add_owes (E := digits_Pad_E) (Tab.env_ok tab_ok _ _ _ _) mixed Tb48_nat Tb48_owes (fn := Tryd.f33) (code := digits_Pad_c) Tryd.func33 (by kernel_rfl) (by kernel_rfl) fun l b r b' h => by
  obtain ⟨rfl, h⟩ := noBox_some h
  obtain ⟨x0, x1, h1, h2⟩ := own2 (E := digits_Pad_E) rfl h
  exact ⟨FUEL, (h2 _ _ _ _ _ _).trans ((digits_Pad_eq _ x0 x1 _).trans h1)⟩
noncomputable abbrev codes_Apply_c : Code := Tryd.f34.body.getD .skip
def codes_Apply_E : Env := tab.env (fun i => bif Nat.beq i 2 then [1, 8, 9, 10] else []) (fun i => bif Nat.beq i 2 then [4, 5] else []) [] [(.sl 51 (.pair .str (.pair .str .unit))), .str]
def codes_Apply_h0 (text_1 : ByteArray) (t8 : Zt12) (t9 : Int) (t10 : Int) : State := ⟨[U_, [.dat .str text_1 []], U_, U_, U_, U_, U_, U_, [.dat (.sl 51 (.pair .str (.pair .str .unit))) t8 []], [.dat (.int .i64) t9 []], [.dat (.int .i64) t10 []], U_, U_, U_, U_, U_, U_, U_, U_, U_, U_], [N_, N_, N_, N_, N_, N_, N_, N_, N_, N_, N_, N_, N_, N_, N_, N_, N_, N_, N_, N_, N_, N_]⟩
def codes_Apply_x0_0 (t4 : ByteArray) (t5 : Bool) : State := ⟨[U_, U_, U_, U_, [.dat .str t4 []], [.dat .bool t5 []], U_, U_, U_, U_, U_, U_, U_, U_, U_, U_, U_, U_, U_, U_, U_], [N_, N_, N_, N_, N_, N_, N_, N_, N_, N_, N_, N_, N_, N_, N_, N_, N_, N_, N_, N_, N_, N_]⟩
def codes_Apply_x0_1  : State := ⟨[U_, U_, U_, U_, U_, U_, U_, U_, U_, U_, U_, U_, U_, U_, U_, U_, U_, U_, U_, U_, U_], [N_, N_, N_, N_, N_, N_, N_, N_, N_, N_, N_, N_, N_, N_, N_, N_, N_, N_, N_, N_, N_, N_]⟩
theorem codes_Apply_t (R : Type) (kk : Nat) (l_0 : Zt12) (text_1 : ByteArray) (K : List SV → Option Box → Option R) : evFn codes_Apply_E (Tb49 R) kk Tryd.f34 codes_Apply_c [.dat (.sl 51 (.pair .str (.pair .str .unit))) l_0 [], .dat .str text_1 []] none K =
  codes_Apply_s0 l_0 text_1 (fun a0 a1 a2 a3 => loopR (ev codes_Apply_E (Tb49 R) kk (sub [1, 0, 1, 0, 0] codes_Apply_c)) [1, 8, 9, 10] [4, 5] kk (codes_Apply_h0 a0 a1 a2 a3) (kBlock 0 (kSeq codes_Apply_E (Tb49 R) kk (sub [1, 1] codes_Apply_c) (kFin codes_Apply_E Tryd.f34.results.toList none K)))) := by kernel_rfl
theorem codes_Apply_d0 (R : Type) (kk k : Nat) (text_1 : ByteArray) (t8 : Zt12) (t9 : Int) (t10 : Int) (K : Ex → State → Option R) : loopR (ev codes_Apply_E (Tb49 R) kk (sub [1, 0, 1, 0, 0] codes_Apply_c)) [1, 8, 9, 10] [4, 5] (k + 1) (codes_Apply_h0 text_1 t8 t9 t10) K =
  codes_Apply_s1 text_1 t8 t9 t10 (fun a0 a1 => K .ret (codes_Apply_x0_0 a0 a1)) (fun a0 a1 a2 a3 => loopR (ev codes_Apply_E (Tb49 R) kk (sub [1, 0, 1, 0, 0] codes_Apply_c)) [1, 8, 9, 10] [4, 5] k (codes_Apply_h0 a0 a1 a2 a3) K) (K (.exit 0) (codes_Apply_x0_1)) := by kernel_rfl
theorem codes_Apply_y0_0 (R : Type) (kk : Nat) (t4 : ByteArray) (t5 : Bool) (K : List SV → Option Box → Option R) : (kBlock 0 (kSeq codes_Apply_E (Tb49 R) kk (sub [1, 1] codes_Apply_c) (kFin codes_Apply_E Tryd.f34.results.toList none K))) .ret (codes_Apply_x0_0 t4 t5) =
  codes_Apply_s2 t4 t5 (fun a0 a1 => K [.dat .str a0 [], .dat .bool a1 []] none) := by kernel_rfl
theorem codes_Apply_y0_1 (R : Type) (kk : Nat)  (K : List SV → Option Box → Option R) : (kBlock 0 (kSeq codes_Apply_E (Tb49 R) kk (sub [1, 1] codes_Apply_c) (kFin codes_Apply_E Tryd.f34.results.toList none K))) (.exit 0) (codes_Apply_x0_1) =
  codes_Apply_s3 (fun a0 a1 => K [.dat .str a0 [], .dat .bool a1 []] none) := by kernel_rfl
theorem codes_Apply_lp0 (R : Type) (k : Nat) (text_1 : ByteArray) (t8 : Zt12) (t9 : Int) (t10 : Int) (K : Ex → State → Option R) : loopR (ev codes_Apply_E (Tb49 R) FUEL (sub [1, 0, 1, 0, 0] codes_Apply_c)) [1, 8, 9, 10] [4, 5] k (codes_Apply_h0 text_1 t8 t9 t10) K = (codes_Apply_l0 k text_1 t8 t9 t10).bind fun e => (Sum.elim (fun (we : Zt3) => K .ret (codes_Apply_x0_0 we.1 we.2)) (fun (we : Unit) => K (.exit 0) (codes_Apply_x0_1)) e) := by
  induction k generalizing text_1 t8 t9 t10 with
  | zero => rfl
  | succ k ih =>
    rw [codes_Apply_d0]
    simp only [codes_Apply_l0, codes_Apply_s0_bind, codes_Apply_s1_bind, codes_Apply_s2_bind, codes_Apply_s3_bind, ih, cond_bind, within_bind, none_bind, some_bind, sum_bind, bind_bind, Sum.elim_inl, Sum.elim_inr]
theorem codes_Apply_eq (R : Type) (l_0 : Zt12) (text_1 : ByteArray) (K : List SV → Option Box → Option R) : evFn codes_Apply_E (Tb49 R) FUEL Tryd.f34 codes_Apply_c [.dat (.sl 51 (.pair .str (.pair .str .unit))) l_0 [], .dat .str text_1 []] none K = (codes_Apply l_0 text_1).bind fun r => K [.dat .str r.1 [], .dat .bool r.2 []] none := by
  rw [codes_Apply_t]
  simp only [codes_Apply, codes_Apply_s0_bind, codes_Apply_s1_bind, codes_Apply_s2_bind, codes_Apply_s3_bind, codes_Apply_lp0, codes_Apply_y0_0, codes_Apply_y0_1, cond_bind, within_bind, none_bind, some_bind, sum_bind, bind_bind, Sum.elim_inl, Sum.elim_inr]
def codes_Apply_g : Pure := fun R l b K => noBox b (args2 (.sl 51 (.pair .str (.pair .str .unit))) .str l (fun x0 x1 => (codes_Apply x0 x1).bind fun r => K [.dat .str r.1 [], .dat .bool r.2 []] none))
theorem codes_Apply_n : codes_Apply_g.Nat := fun R S l b F G K h => noBox_nat (args2_nat fun _ _ => bindr_nat fun _ => h _ _)
def Tb50 : Funs := Tb49.add 34 [(.sl 51 (.pair .str (.pair .str .unit))), .str] codes_Apply_g
theorem Tb50_nat : Tb50.Nat := add_nat Tb49_nat codes_Apply_n
theorem Tb50_owes : ∀ f, Owes Tryd.prog Tb50 f := add_owes (E := codes_Apply_E) (Tab.env_ok tab_ok _ _ _ _) mixed Tb49_nat Tb49_owes (fn := Tryd.f34) (code := codes_Apply_c) Tryd.func34 (by kernel_rfl) (by kernel_rfl) fun l b r b' h => by
  obtain ⟨rfl, h⟩ := noBox_some h
  obtain ⟨x0, x1, h1, h2⟩ := own2 (E := codes_Apply_E) rfl h
  exact ⟨FUEL, (h2 _ _ _ _ _ _).trans ((codes_Apply_eq _ x0 x1 _).trans h1)⟩
noncomputable abbrev rule_Apply_c : Code := Tryd.f18.body.getD .skip
def rule_Apply_E : Env := tab.env (fun _ => []) (fun _ => []) [6] [y9, y13, .str]
theorem rule_Apply_t (R : Type) (kk : Nat) (r_0 : Zt18) (b_1 : Zt16) (text_2 : ByteArray) (K : List SV → Option Box → Option R) : evFn rule_Apply_E (Tb50 R) kk Tryd.f18 rule_Apply_c [.dat y9 r_0 [], .dat y13 b_1 [], .dat .str text_2 []] none K =
  rule_Apply_s0 r_0 b_1 text_2 (fun a0 a1 => K [.dat (.pair (.int .i64) (.pair .str .unit)) a0 [], .dat (.int .i64) a1 []] none) := by kernel_rfl
theorem rule_Apply_eq (R : Type) (r_0 : Zt18) (b_1 : Zt16) (text_2 : ByteArray) (K : List SV → Option Box → Option R) : evFn rule_Apply_E (Tb50 R) FUEL Tryd.f18 rule_Apply_c [.dat y9 r_0 [], .dat y13 b_1 [], .dat .str text_2 []] none K = (rule_Apply r_0 b_1 text_2).bind fun r => K [.dat (.pair (.int .i64) (.pair .str .unit)) r.1 [], .dat (.int .i64) r.2 []] none := by
  rw [rule_Apply_t]
  simp only [rule_Apply, rule_Apply_s0_bind, cond_bind, within_bind, none_bind, some_bind, sum_bind, bind_bind, Sum.elim_inl, Sum.elim_inr]
def rule_Apply_g : Pure := fun R l b K => noBox b (args3 y9 y13 .str l (fun x0 x1 x2 => (rule_Apply x0 x1 x2).bind fun r => K [.dat (.pair (.int .i64) (.pair .str .unit)) r.1 [], .dat (.int .i64) r.2 []] none))
theorem rule_Apply_n : rule_Apply_g.Nat := fun R S l b F G K h => noBox_nat (args3_nat fun _ _ _ => bindr_nat fun _ => h _ _)
def Tb51 : Funs := Tb50.add 18 [y9, y13, .str] rule_Apply_g
theorem Tb51_nat : Tb51.Nat := add_nat Tb50_nat rule_Apply_n
theorem Tb51_owes : ∀ f, Owes Tryd.prog Tb51 f := add_owes (E := rule_Apply_E) (Tab.env_ok tab_ok _ _ _ _) mixed Tb50_nat Tb50_owes (fn := Tryd.f18) (code := rule_Apply_c) Tryd.func18 (by kernel_rfl) (by kernel_rfl) fun l b r b' h => by
  obtain ⟨rfl, h⟩ := noBox_some h
  obtain ⟨x0, x1, x2, h1, h2⟩ := own3 (E := rule_Apply_E) rfl h
  exact ⟨FUEL, (h2 _ _ _ _ _ _).trans ((rule_Apply_eq _ x0 x1 x2 _).trans h1)⟩
noncomputable abbrev xlate_Translate_c : Code := Tryd.f8.body.getD .skip
def xlate_Translate_E : Env := { { tab.env (fun i => bif Nat.beq i 12 then [4, 6, 7, 8, 9, 16, 59, 60, 61] else bif Nat.beq i 18 then [4, 6, 8, 9, 16, 76, 77, 78] else []) (fun i => bif Nat.beq i 12 then [4, 6, 7, 8, 9, 16] else bif Nat.beq i 18 then [8, 9, 16] else []) [8, 9] [y14, y13, y13, y4] with dr := fun i => bif Nat.beq i 12 then [17] else [] } with ro := true }
def xlate_Translate_h0 (t59 : Zt20) (t60 : Int) (t61 : Int) (bt4 : Zt22) (bt6 : Zt16) (bt7 : Zt15) (bt8 : Zt15) (bt9 : Zt4) (bt16 : Zt15) : State := ⟨[U_, U_, U_, U_, [.ptr 5 y14 []], U_, [.ptr 7 y13 []], [.ptr 8 y4 []], [.ptr 9 y4 []], [.ptr 10 (.pair (.int .i64) (.pair (.int .i64) .unit)) []], U_, U_, U_, U_, U_, U_, [.ptr 17 y4 []], U_, U_, U_, U_, U_, U_, U_, U_, U_, U_, U_, U_, U_, U_, U_, U_, U_, U_, U_, U_, U_, U_, U_, U_, U_, U_, U_, U_, U_, U_, U_, U_, U_, U_, U_, U_, U_, U_, U_, U_, U_, U_, [.dat (.sl 48 y9) t59 []], [.dat (.int .i64) t60 []], [.dat (.int .i64) t61 []], U_, U_, U_, U_, U_, U_, U_, U_, U_, U_, U_, U_, U_, U_, U_, U_, U_, U_, U_, U_, U_, U_, U_, U_, U_, U_, U_, U_, U_, U_, U_, U_, U_, U_, U_, U_, U_, U_, U_, U_, U_, U_, U_, U_, U_, U_, U_, U_, U_, U_, U_, U_, U_, U_, U_, U_, U_, U_, U_, U_], [N_, N_, N_, N_, N_, some ⟨y14, bt4, []⟩, N_, some ⟨y13, bt6, []⟩, some ⟨y4, bt7, []⟩, some ⟨y4, bt8, [[1]]⟩, some ⟨(.pair (.int .i64) (.pair (.int .i64) .unit)), bt9, []⟩, N_, N_, N_, N_, N_, N_, some ⟨y4, bt16, []⟩, N_, N_, N_, N_, N_, N_, N_, N_, N_, N_, N_, N_, N_, N_, N_, N_, N_, N_, N_, N_, N_, N_, N_, N_, N_, N_, N_, N_, N_, N_, N_, N_, N_, N_, N_, N_, N_, N_, N_, N_, N_, N_, N_, N_, N_, N_, N_, N_, N_, N_, N_, N_, N_, N_, N_, N_, N_, N_, N_, N_, N_, N_, N_, N_, N_, N_, N_, N_, N_, N_, N_, N_, N_, N_, N_, N_, N_, N_, N_, N_, N_, N_, N_, N_, N_, N_, N_, N_, N_, N_, N_, N_, N_, N_, N_, N_, N_, N_, N_, N_, N_, N_, N_, N_, N_]⟩
def xlate_Translate_x0_0 (bt4 : Zt22) (bt6 : Zt16) (bt7 : Zt15) (bt8 : Zt15) (bt9 : Zt4) (bt16 : Zt15) : State := ⟨[U_, U_, U_, U_, [.ptr 5 y14 []], U_, [.ptr 7 y13 []], [.ptr 8 y4 []], [.ptr 9 y4 []], [.ptr 10 (.pair (.int .i64) (.pair (.int .i64) .unit)) []], U_, U_, U_, U_, U_, U_, [.ptr 17 y4 []], U_, U_, U_, U_, U_, U_, U_, U_, U_, U_, U_, U_, U_, U_, U_, U_, U_, U_, U_, U_, U_, U_, U_, U_, U_, U_, U_, U_, U_, U_, U_, U_, U_, U_, U_, U_, U_, U_, U_, U_, U_, U_, U_, U_, U_, U_, U_, U_, U_, U_, U_, U_, U_, U_, U_, U_, U_, U_, U_, U_, U_, U_, U_, U_, U_, U_, U_, U_, U_, U_, U_, U_, U_, U_, U_, U_, U_, U_, U_, U_, U_, U_, U_, U_, U_, U_, U_, U_, U_, U_, U_, U_, U_, U_, U_, U_, U_, U_, U_, U_, U_, U_, U_, U_, U_], [N_, N_, N_, N_, N_, some ⟨y14, bt4, []⟩, N_, some ⟨y13, bt6, []⟩, some ⟨y4, bt7, []⟩, some ⟨y4, bt8, [[1]]⟩, some ⟨(.pair (.int .i64) (.pair (.int .i64) .unit)), bt9, []⟩, N_, N_, N_, N_, N_, N_, some ⟨y4, bt16, []⟩, N_, N_, N_, N_, N_, N_, N_, N_, N_, N_, N_, N_, N_, N_, N_, N_, N_, N_, N_, N_, N_, N_, N_, N_, N_, N_, N_, N_, N_, N_, N_, N_, N_, N_, N_, N_, N_, N_, N_, N_, N_, N_, N_, N_, N_, N_, N_, N_, N_, N_, N_, N_, N_, N_, N_, N_, N_, N_, N_, N_, N_, N_, N_, N_, N_, N_, N_, N_, N_, N_, N_, N_, N_, N_, N_, N_, N_, N_, N_, N_, N_, N_, N_, N_, N_, N_, N_, N_, N_, N_, N_, N_, N_, N_, N_, N_, N_, N_, N_, N_, N_, N_, N_, N_, N_]⟩
def xlate_Translate_h1 (t76 : Zt9) (t77 : Int) (t78 : Int) (bt4 : Zt22) (bt6 : Zt16) (bt8 : Zt15) (bt9 : Zt4) (bt16 : Zt15) : State := ⟨[U_, U_, U_, U_, [.ptr 5 y14 []], U_, [.ptr 7 y13 []], U_, [.ptr 9 y4 []], [.ptr 10 (.pair (.int .i64) (.pair (.int .i64) .unit)) []], U_, U_, U_, U_, U_, U_, [.ptr 17 y4 []], U_, U_, U_, U_, U_, U_, U_, U_, U_, U_, U_, U_, U_, U_, U_, U_, U_, U_, U_, U_, U_, U_, U_, U_, U_, U_, U_, U_, U_, U_, U_, U_, U_, U_, U_, U_, U_, U_, U_, U_, U_, U_, U_, U_, U_, U_, U_, U_, U_, U_, U_, U_, U_, U_, U_, U_, U_, U_, U_, [.dat (.sl 45 (.pair (.int .i64) (.pair .str .unit))) t76 []], [.dat (.int .i64) t77 []], [.dat (.int .i64) t78 []], U_, U_, U_, U_, U_, U_, U_, U_, U_, U_, U_, U_, U_, U_, U_, U_, U_, U_, U_, U_, U_, U_, U_, U_, U_, U_, U_, U_, U_, U_, U_, U_, U_, U_, U_, U_, U_, U_, U_, U_, U_, U_, U_], [N_, N_, N_, N_, N_, some ⟨y14, bt4, []⟩, N_, some ⟨y13, bt6, []⟩, N_, some ⟨y4, bt8, [[1]]⟩, some ⟨(.pair (.int .i64) (.pair (.int .i64) .unit)), bt9, []⟩, N_, N_, N_, N_, N_, N_, some ⟨y4, bt16, []⟩, N_, N_, N_, N_, N_, N_, N_, N_, N_, N_, N_, N_, N_, N_, N_, N_, N_, N_, N_, N_, N_, N_, N_, N_, N_, N_, N_, N_, N_, N_, N_, N_, N_, N_, N_, N_, N_, N_, N_, N_, N_, N_, N_, N_, N_, N_, N_, N_, N_, N_, N_, N_, N_, N_, N_, N_, N_, N_, N_, N_, N_, N_, N_, N_, N_, N_, N_, N_, N_, N_, N_, N_, N_, N_, N_, N_, N_, N_, N_, N_, N_, N_, N_, N_, N_, N_, N_, N_, N_, N_, N_, N_, N_, N_, N_, N_, N_, N_, N_, N_, N_, N_, N_, N_, N_]⟩
def xlate_Translate_x1_0 (bt8 : Zt15) (bt9 : Zt4) (bt16 : Zt15) : State := ⟨[U_, U_, U_, U_, U_, U_, U_, U_, [.ptr 9 y4 []], [.ptr 10 (.pair (.int .i64) (.pair (.int .i64) .unit)) []], U_, U_, U_, U_, U_, U_, [.ptr 17 y4 []], U_, U_, U_, U_, U_, U_, U_, U_, U_, U_, U_, U_, U_, U_, U_, U_, U_, U_, U_, U_, U_, U_, U_, U_, U_, U_, U_, U_, U_, U_, U_, U_, U_, U_, U_, U_, U_, U_, U_, U_, U_, U_, U_, U_, U_, U_, U_, U_, U_, U_, U_, U_, U_, U_, U_, U_, U_, U_, U_, U_, U_, U_, U_, U_, U_, U_, U_, U_, U_, U_, U_, U_, U_, U_, U_, U_, U_, U_, U_, U_, U_, U_, U_, U_, U_, U_, U_, U_, U_, U_, U_, U_, U_, U_, U_, U_, U_, U_, U_, U_, U_, U_, U_, U_, U_], [N_, N_, N_, N_, N_, N_, N_, N_, N_, some ⟨y4, bt8, [[1]]⟩, some ⟨(.pair (.int .i64) (.pair (.int .i64) .unit)), bt9, []⟩, N_, N_, N_, N_, N_, N_, some ⟨y4, bt16, []⟩, N_, N_, N_, N_, N_, N_, N_, N_, N_, N_, N_, N_, N_, N_, N_, N_, N_, N_, N_, N_, N_, N_, N_, N_, N_, N_, N_, N_, N_, N_, N_, N_, N_, N_, N_, N_, N_, N_, N_, N_, N_, N_, N_, N_, N_, N_, N_, N_, N_, N_, N_, N_, N_, N_, N_, N_, N_, N_, N_, N_, N_, N_, N_, N_, N_, N_, N_, N_, N_, N_, N_, N_, N_, N_, N_, N_, N_, N_, N_, N_, N_, N_, N_, N_, N_, N_, N_, N_, N_, N_, N_, N_, N_, N_, N_, N_, N_, N_, N_, N_, N_, N_, N_, N_, N_]⟩
def xlate_Translate_x1_1 (bt8 : Zt15) (bt9 : Zt4) (bt16 : Zt15) : State := ⟨[U_, U_, U_, U_, U_, U_, U_, U_, [.ptr 9 y4 []], [.ptr 10 (.pair (.int .i64) (.pair (.int .i64) .unit)) []], U_, U_, U_, U_, U_, U_, [.ptr 17 y4 []], U_, U_, U_, U_, U_, U_, U_, U_, U_, U_, U_, U_, U_, U_, U_, U_, U_, U_, U_, U_, U_, U_, U_, U_, U_, U_, U_, U_, U_, U_, U_, U_, U_, U_, U_, U_, U_, U_, U_, U_, U_, U_, U_, U_, U_, U_, U_, U_, U_, U_, U_, U_, U_, U_, U_, U_, U_, U_, U_, U_, U_, U_, U_, U_, U_, U_, U_, U_, U_, U_, U_, U_, U_, U_, U_, U_, U_, U_, U_, U_, U_, U_, U_, U_, U_, U_, U_, U_, U_, U_, U_, U_, U_, U_, U_, U_, U_, U_, U_, U_, U_, U_, U_, U_, U_], [N_, N_, N_, N_, N_, N_, N_, N_, N_, some ⟨y4, bt8, [[1]]⟩, some ⟨(.pair (.int .i64) (.pair (.int .i64) .unit)), bt9, []⟩, N_, N_, N_, N_, N_, N_, some ⟨y4, bt16, []⟩, N_, N_, N_, N_, N_, N_, N_, N_, N_, N_, N_, N_, N_, N_, N_, N_, N_, N_, N_, N_, N_, N_, N_, N_, N_, N_, N_, N_, N_, N_, N_, N_, N_, N_, N_, N_, N_, N_, N_, N_, N_, N_, N_, N_, N_, N_, N_, N_, N_, N_, N_, N_, N_, N_, N_, N_, N_, N_, N_, N_, N_, N_, N_, N_, N_, N_, N_, N_, N_, N_, N_, N_, N_, N_, N_, N_, N_, N_, N_, N_, N_, N_, N_, N_, N_, N_, N_, N_, N_, N_, N_, N_, N_, N_, N_, N_, N_, N_, N_, N_, N_, N_, N_, N_, N_]⟩
end Go.Proofs.YtmbobepkfagkgaaDoor
