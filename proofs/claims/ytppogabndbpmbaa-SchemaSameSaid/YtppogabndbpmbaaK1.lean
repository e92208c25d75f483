/- What is shown here: plain functions and what they compute (parts: RefDraw2 RefDraw3 RefCode RefFn RefOpen RefEnv RefTab RefLoop RefRow RefGen GDclass GDmathbits GDfields GDgroatref05 GDgroatref04 GDgroatref08 GDgroatref09 GDgroatref10 GDgroatref11 GDgroatref13 GDslices GDprefix GDspec GDschema GDgroatlaw13). No condition. -/
import Derived.Test.YtppogabndbpmbaaK0
import Derived.OpenShut
import Derived.Deep.Slices
/- Operations that are apart may change places; so a region comes to the same in whatever order. -/
set_option linter.unusedVariables false
set_option linter.unusedSimpArgs false
namespace Go.Ref
open Go
variable {P : Program} {E : Env} {X : Cfg} {s : State} {a : Act} {o : Oper} {u : Out}

/-! ### What is turned -/
def shutBy : List (Nat × Nat) → Nat → List SV → List SV
  | [], _, l => l
  | (i, j) :: r, t, l => shutBy r t (if t = i then shutAt l j else l)
theorem close_slot {t : Nat} : ∀ {c : List (Nat × Nat)} {s : State}, (s.close c).slot t = shutBy c t (s.slot t)
  | [], s => rfl
  | (i, j) :: r, s => by rw [close_cons, close_slot (c := r), close1_slot]; rfl
theorem shutBy_other {t : Nat} : ∀ {c : List (Nat × Nat)} {l : List SV}, t ∉ c.map (·.1) → shutBy c t l = l
  | [], l, h => rfl
  | (i, j) :: r, l, h => by
    simp only [List.map_cons, List.mem_cons, not_or] at h
    simp only [shutBy]
    rw [if_neg h.1]
    exact shutBy_other h.2
theorem apply_len {d : Option Nat} : (s.apply d u).sl.length = s.sl.length := by
  cases d with
  | none => simp only [State.apply, State.putSlot]; cases u.bx <;> simp [State.putBox, close_len]
  | some d => simp only [State.apply, State.putSlot, List.length_set]; cases u.bx <;> simp [State.putBox, close_len]
theorem apply_slot {d : Option Nat} {t : Nat} : (s.apply d u).slot t = if d = some t ∧ t < s.sl.length then u.v else shutBy u.cl t (s.slot t) := by
  have hb : ∀ (s : State) b, (s.putBox b).slot t = s.slot t := fun s b => by cases b <;> rfl
  cases d with
  | none =>
    simp only [State.apply, State.putSlot, hb, close_slot]
    rw [if_neg (by simp)]
  | some d =>
    simp only [State.apply]
    by_cases e : d = t
    · subst e
      by_cases hlt : d < s.sl.length
      · rw [if_pos ⟨rfl, hlt⟩]
        have : d < ((s.close u.cl).putBox u.bx).sl.length := by
          have : ((s.close u.cl).putBox u.bx).sl.length = s.sl.length := by cases u.bx <;> simp [State.putBox, close_len]
          omega
        simp only [State.putSlot, State.slot, List.getD_eq_getElem?_getD, List.getElem?_set_self this, Option.getD_some]
      · rw [if_neg (fun h => hlt h.2)]
        have : ((s.close u.cl).putBox u.bx).sl.length ≤ d := by
          have : ((s.close u.cl).putBox u.bx).sl.length = s.sl.length := by cases u.bx <;> simp [State.putBox, close_len]
          omega
        have h2 : (((s.close u.cl).putBox u.bx).putSlot (some d) u.v).slot d = ((s.close u.cl).putBox u.bx).slot d := by
          simp only [State.putSlot, State.slot]
          rw [List.set_eq_of_length_le this]
        rw [h2, hb, close_slot]
    · rw [if_neg (fun h => e (by injection h.1))]
      have h2 : (((s.close u.cl).putBox u.bx).putSlot (some d) u.v).slot t = ((s.close u.cl).putBox u.bx).slot t := by
        simp only [State.putSlot, State.slot, List.getD_eq_getElem?_getD, List.getElem?_set_ne e]
      rw [h2, hb, close_slot]
theorem apply_bs {d : Option Nat} {id : Nat} : (s.apply d u).bs[id]? = match u.bx with
    | some (id', B) => if id' = id then (s.bs[id]?).map (fun _ => some B) else s.bs[id]?
    | none => s.bs[id]? := by
  have hs : ∀ (s : State) d l, (s.putSlot d l).bs = s.bs := fun s d l => by cases d <;> rfl
  simp only [State.apply, hs]
  cases hb : u.bx with
  | none => simp only [State.putBox, close_bs]
  | some b =>
    obtain ⟨id', B⟩ := b
    simp only [State.putBox, close_bs]
    rw [List.getElem?_set]
    by_cases e : id' = id
    · subst e
      rw [if_pos rfl, if_pos rfl]
      by_cases hlt : id' < s.bs.length
      · rw [if_pos hlt, List.getElem?_eq_getElem hlt]; rfl
      · rw [if_neg hlt, List.getElem?_eq_none (by omega)]; rfl
    · rw [if_neg e, if_neg e]
theorem state_ext {s s' : State} (h1 : s.sl.length = s'.sl.length) (h2 : ∀ t, s.slot t = s'.slot t) (h3 : ∀ id : Nat, s.bs[id]? = s'.bs[id]?) : s = s' := by
  cases s with
  | mk sl bs =>
    cases s' with
    | mk sl' bs' =>
      simp only [State.mk.injEq]
      refine ⟨List.ext_getElem? fun i => ?_, List.ext_getElem? h3⟩
      have := h2 i
      simp only [State.slot, List.getD_eq_getElem?_getD] at this h1
      by_cases hlt : i < sl.length
      · rw [List.getElem?_eq_getElem hlt, List.getElem?_eq_getElem (by omega)] at this ⊢
        simpa using this
      · rw [List.getElem?_eq_none (by omega), List.getElem?_eq_none (by omega)]

/-! ### Two that are apart -/
structure Parted (R1 W1 b1 c1 R2 W2 b2 c2 : List Nat) : Prop where
  h1 : ∀ t ∈ W1, t ∉ R2 ∧ t ∉ W2
  h2 : ∀ t ∈ W2, t ∉ R1
  h3 : ∀ id ∈ c1, id ∉ b2 ∧ id ∉ c2
  h4 : ∀ id ∈ c2, id ∉ b1
theorem apart_parted {o1 o2 : Oper} {ops : List Oper} {i1 i2 : Nat} {s1 s2 : State} {u1 u2 : Out} (h : (footOf ops o1 i1 s1 u1).apart (footOf ops o2 i2 s2 u2) = true) :
    Parted (looks ops o1) (o1.dst.toList ++ u1.cl.map (·.1)) (readsOf s1 o1) (u1.bx.toList.map (·.1)) (looks ops o2) (o2.dst.toList ++ u2.cl.map (·.1)) (readsOf s2 o2) (u2.bx.toList.map (·.1)) := by
  simp only [Foot.apart, footOf, Bool.and_eq_true] at h
  obtain ⟨g1, g2, g3, g4⟩ := h
  refine ⟨fun t ht => ?_, fun t ht => ?_, fun t ht => ?_, fun t ht => ?_⟩
  · have := and_zero g1 t (by rw [mask_test]; exact decide_eq_true ht)
    simp only [Nat.testBit_or, mask_test, Bool.or_eq_false_iff, decide_eq_false_iff_not] at this
    exact this
  · have := and_zero g2 t (by rw [mask_test]; exact decide_eq_true ht)
    simpa only [mask_test, decide_eq_false_iff_not] using this
  · have := and_zero g3 t (by rw [mask_test]; exact decide_eq_true ht)
    simp only [Nat.testBit_or, mask_test, Bool.or_eq_false_iff, decide_eq_false_iff_not] at this
    exact this
  · have := and_zero g4 t (by rw [mask_test]; exact decide_eq_true ht)
    simpa only [mask_test, decide_eq_false_iff_not] using this
theorem apply_agree {d : Option Nat} {ts bs : List Nat} (h1 : ∀ t ∈ ts, t ∉ d.toList ++ u.cl.map (·.1)) (h2 : ∀ id ∈ bs, id ∉ u.bx.toList.map (·.1)) : Agree ts bs (s.apply d u) s where
  sl := fun t ht => by
    have h := h1 t ht
    simp only [List.mem_append, not_or] at h
    rw [apply_slot, if_neg (fun hc => h.1 (by rw [hc.1]; simp)), shutBy_other h.2]
  bs := fun id hid => by
    have h := h2 id hid
    rw [apply_bs]
    cases hb : u.bx with
    | none => rfl
    | some b =>
      obtain ⟨id', B⟩ := b
      rw [hb] at h
      simp only
      rw [if_neg (fun e => h (by simp [e]))]
theorem apply_comm {d1 d2 : Option Nat} {u1 u2 : Out} (h1 : ∀ t ∈ d1.toList ++ u1.cl.map (·.1), t ∉ d2.toList ++ u2.cl.map (·.1)) (h2 : ∀ id ∈ u1.bx.toList.map (·.1), id ∉ u2.bx.toList.map (·.1)) :
    (s.apply d1 u1).apply d2 u2 = (s.apply d2 u2).apply d1 u1 := by
  refine state_ext (by rw [apply_len, apply_len, apply_len, apply_len]) (fun t => ?_) (fun id => ?_)
  · rw [apply_slot, apply_slot, apply_slot, apply_slot, apply_len, apply_len]
    by_cases hd1 : d1 = some t
    · have hm : t ∈ d1.toList ++ u1.cl.map (·.1) := by rw [hd1]; simp
      have hn := h1 t hm
      simp only [List.mem_append, not_or] at hn
      have hd2 : ¬ d2 = some t := fun e => hn.1 (by rw [e]; simp)
      by_cases hlt : t < s.sl.length
      · rw [if_neg (fun h => hd2 h.1), if_pos ⟨hd1, hlt⟩, shutBy_other hn.2, if_pos ⟨hd1, hlt⟩]
      · rw [if_neg (fun h => hd2 h.1), if_neg (fun h => hlt h.2), if_neg (fun h => hlt h.2), if_neg (fun h => hlt h.2), shutBy_other hn.2, shutBy_other hn.2]
    · by_cases hd2 : d2 = some t
      · have hn : t ∉ d1.toList ++ u1.cl.map (·.1) := fun hm => h1 t hm (by rw [hd2]; simp)
        simp only [List.mem_append, not_or] at hn
        by_cases hlt : t < s.sl.length
        · rw [if_pos ⟨hd2, hlt⟩, if_neg (fun h => hd1 h.1), if_pos ⟨hd2, hlt⟩, shutBy_other hn.2]
        · rw [if_neg (fun h => hlt h.2), if_neg (fun h => hlt h.2), if_neg (fun h => hlt h.2), if_neg (fun h => hlt h.2), shutBy_other hn.2, shutBy_other hn.2]
      · rw [if_neg (fun h => hd2 h.1), if_neg (fun h => hd1 h.1), if_neg (fun h => hd1 h.1), if_neg (fun h => hd2 h.1)]
        by_cases hm : t ∈ u1.cl.map (·.1)
        · have hn := h1 t (by simp only [List.mem_append]; exact .inr hm)
          simp only [List.mem_append, not_or] at hn
          rw [shutBy_other hn.2, shutBy_other hn.2]
        · rw [shutBy_other hm, shutBy_other hm]
  · rw [apply_bs, apply_bs, apply_bs, apply_bs]
    cases hb1 : u1.bx with
    | none => rfl
    | some b1 =>
      obtain ⟨id1, B1⟩ := b1
      cases hb2 : u2.bx with
      | none => rfl
      | some b2 =>
        obtain ⟨id2, B2⟩ := b2
        rw [hb1, hb2] at h2
        have hne : id1 ≠ id2 := fun e => h2 id1 (by simp) (by simp [e])
        simp only
        by_cases e1 : id1 = id
        · subst e1
          rw [if_neg (fun e => hne e.symm), if_pos rfl, if_pos rfl, if_neg (fun e => hne e.symm)]
        · by_cases e2 : id2 = id
          · subst e2
            rw [if_pos rfl, if_neg e1, if_neg e1, if_pos rfl]
          · rw [if_neg e2, if_neg e1, if_neg e1, if_neg e2]
theorem reads_agree {ops : List Oper} {s s' : State} (h : ∀ t ∈ looks ops o, s.slot t = s'.slot t) : readsOf s o = readsOf s' o := by
  have hop : ∀ x ∈ o.op.operands.toList, s.op1 x = s'.op1 x := fun x hx => op1_agree (ts := tmpsOf o.op.operands.toList) (fun t ht => h t (by simp only [looks, List.mem_append]; exact .inl ht)) (fun _ ht => ht) hx
  unfold readsOf
  cases ho : o.op with
  | load T x => simp only; rw [hop x (by simp [ho, Op.operands])]
  | store T x y => simp only; rw [hop x (by simp [ho, Op.operands])]
  | call c =>
    obtain ⟨callee, args, ts⟩ := c
    cases callee with
    | value f =>
      simp only
      congr 1
      have : (args.toList.map fun x => ptrOf (s.op1 x)) = args.toList.map fun x => ptrOf (s'.op1 x) := List.map_congr_left fun x hx => by
        rw [hop x (by
          simp only [ho, Op.operands, Call.operands, Array.toList_append, List.mem_append]
          exact .inr hx)]
      rw [List.flatMap_def, List.flatMap_def, this]
    | _ => rfl
  | _ => rfl
theorem out_agree {C : Funs} {ops : List Oper} {s s' : State} (h : Agree (looks ops o) (readsOf s o) s s') : outOf E C ops o s = outOf E C ops o s' := by
  unfold outOf
  rw [act_agree h]
  split
  · rfl
  · rename_i g want hg
    split
    · rfl
    · rename_i d hd
      rw [h.sl d (by simp [looks, hg, hd])]
theorem swap {C : Funs} {ops : List Oper} {o1 o2 : Oper} {i1 i2 : Nat} {u1 u2 : Out} (h1 : outOf E C ops o1 s = some u1) (h2 : outOf E C ops o2 (s.apply o1.dst u1) = some u2) (h : (footOf ops o1 i1 s u1).apart (footOf ops o2 i2 (s.apply o1.dst u1) u2) = true) :
    outOf E C ops o2 s = some u2 ∧ footOf ops o2 i2 s u2 = footOf ops o2 i2 (s.apply o1.dst u1) u2 ∧ outOf E C ops o1 (s.apply o2.dst u2) = some u1 ∧ footOf ops o1 i1 (s.apply o2.dst u2) u1 = footOf ops o1 i1 s u1 ∧
      (s.apply o2.dst u2).apply o1.dst u1 = (s.apply o1.dst u1).apply o2.dst u2 := by
  have hp := apart_parted h
  have ag1 : Agree (looks ops o2) (readsOf (s.apply o1.dst u1) o2) (s.apply o1.dst u1) s := apply_agree (fun t ht hm => (hp.h1 t hm).1 ht) (fun id hid hm => (hp.h3 id hm).1 hid)
  have hr1 := reads_agree (ops := ops) (o := o2) ag1.sl
  have ag2 : Agree (looks ops o1) (readsOf s o1) (s.apply o2.dst u2) s := apply_agree (fun t ht hm => hp.h2 t hm ht) (fun id hid hm => hp.h4 id hm hid)
  have hr2 := reads_agree (ops := ops) (o := o1) ag2.sl
  refine ⟨by rw [← out_agree ag1]; exact h2, by simp only [footOf, hr1], ?_, by simp only [footOf, hr2], (apply_comm (fun t ht => (hp.h1 t ht).2) (fun id hid => (hp.h3 id hid).2)).symm⟩
  rw [out_agree (s := s.apply o2.dst u2) (s' := s) ⟨ag2.sl, fun id hid => ag2.bs id (by rw [← hr2]; exact hid)⟩]
  exact h1
end Go.Ref

/- A region whose order is drawn does what the evaluator says. -/
set_option linter.unusedVariables false
set_option linter.unusedSimpArgs false
namespace Go.Ref
open Go
variable {P : Program} {E : Env} {X : Cfg} {s : State} {a : Act} {o : Oper} {u : Out}

/-- The operations of a list, one behind the other: where they end, what each looks at and turns. -/
def Runs (E : Env) (C : Funs) (ops : Array Oper) : List Nat → State → List Foot → State → Prop
  | [], s, tr, z => s = z ∧ tr = []
  | i :: r, s, f :: tr, z => ∃ u, outOf E C ops.toList (ops.getD i default) s = some u ∧ f = footOf ops.toList (ops.getD i default) i s u ∧ Runs E C ops r (s.apply (ops.getD i default).dst u) tr z
  | _ :: _, _, [], _ => False
def aft (ops : Array Oper) (i : Nat) : Nat := afterMask (ops.getD i default).after.toList
def Free (ops : Array Oper) (a b : Foot) : Prop := (aft ops b.i).testBit a.i = true ∨ a.apart b = true
theorem runs_i {C : Funs} {ops : Array Oper} : ∀ {l : List Nat} {s z : State} {tr : List Foot}, Runs E C ops l s tr z → tr.map (·.i) = l
  | [], s, z, tr, h => by rw [h.2]; rfl
  | i :: r, s, z, f :: tr, h => by
    obtain ⟨u, _, rfl, h3⟩ := h
    simp only [List.map_cons, runs_i h3]
    rfl
  | _ :: _, s, z, [], h => h.elim
theorem stepsD_runs {C : Funs} (hC : C.Nat) {ops : Array Oper} {z : State} : ∀ (l : List Nat) (i : Nat) (s : State) (tr : List Foot), (∀ (j : Nat) k, l[j]? = some k → k = i + j) →
    stepsD E (C State) ops.toList (l.map fun k => ops.getD k default) i s tr some = some z → ∃ trf, Runs E C ops l s trf z ∧ (∀ a ∈ tr, ∀ b ∈ trf, Free ops a b) ∧ trf.Pairwise (Free ops) ∧ ∀ k ∈ l, Nat.ble (aft ops k + 1) (bit k) = true
  | [], i, s, tr, hl, h => by
    cases h
    exact ⟨[], ⟨rfl, rfl⟩, (fun a _ b hb => by cases hb), List.Pairwise.nil, fun k hk => by cases hk⟩
  | k :: r, i, s, tr, hl, h => by
    have hk : k = i := by simpa using hl 0 k rfl
    subst hk
    simp only [List.map_cons, stepsD] at h
    obtain ⟨u, h1, h2, h3⟩ := stepD_out hC h
    obtain ⟨trf, r1, r2, r3, r4⟩ := stepsD_runs hC r (k + 1) _ _ (fun j k' hj => by
      have := hl (j + 1) k' hj
      omega) h3
    simp only [fits, Bool.and_eq_true] at h2
    obtain ⟨h2a, h2b⟩ := h2
    have h2b := List.all_eq_true.1 h2b
    refine ⟨footOf ops.toList (ops.getD k default) k s u :: trf, ⟨u, h1, rfl, r1⟩, fun a ha b hb => ?_, ?_, fun k' hk' => ?_⟩
    · rcases List.mem_cons.1 hb with rfl | hb
      · have := h2b a ha
        simp only [Bool.or_eq_true] at this
        exact this
      · exact r2 a (List.mem_cons_of_mem _ ha) b hb
    · exact List.pairwise_cons.2 ⟨fun b hb => r2 _ (by simp) b hb, r3⟩
    · rcases List.mem_cons.1 hk' with rfl | hk'
      · exact h2a
      · exact r4 k' hk'
/-- One that is apart from all before it comes to the front. -/
theorem to_front {C : Funs} {ops : Array Oper} {z : State} {i : Nat} {q : List Nat} : ∀ (p : List Nat) (s : State) (tr : List Foot), Runs E C ops (p ++ i :: q) s tr z → (∀ (tp : List Foot) f tq, tr = tp ++ f :: tq → tp.length = p.length → ∀ a ∈ tp, a.apart f = true) →
    ∃ tp f tq u, tr = tp ++ f :: tq ∧ tp.length = p.length ∧ outOf E C ops.toList (ops.getD i default) s = some u ∧ f = footOf ops.toList (ops.getD i default) i s u ∧ Runs E C ops (p ++ q) (s.apply (ops.getD i default).dst u) (tp ++ tq) z
  | [], s, [], h, hap => h.elim
  | [], s, f :: tr, h, hap => by
    obtain ⟨u, h1, h2, h3⟩ := h
    exact ⟨[], f, tr, u, rfl, rfl, h1, h2, h3⟩
  | j :: p, s, [], h, hap => h.elim
  | j :: p, s, g :: tr, h, hap => by
    obtain ⟨uj, h1, h2, h3⟩ := h
    obtain ⟨tp, f, tq, u, e1, e2, k1, k2, k3⟩ := to_front p _ tr h3 (fun tp f tq e hl a ha => hap (g :: tp) f tq (by rw [e]; rfl) (by simp [hl]) a (List.mem_cons_of_mem _ ha))
    have hg := hap (g :: tp) f tq (by rw [e1]; rfl) (by simp [e2]) g (by simp)
    rw [h2, k2] at hg
    obtain ⟨w1, w2, w3, w4, w5⟩ := swap h1 k1 hg
    refine ⟨g :: tp, f, tq, u, by rw [e1]; rfl, by simp [e2], w1, by rw [k2, w2], uj, w3, by rw [h2, w4], ?_⟩
    rw [w5]
    exact k3
theorem split_at {l : List Nat} {i : Nat} (h : i ∈ l) : ∃ p q, l = p ++ i :: q := List.append_of_mem h
theorem filter_out {p q : List Nat} {i : Nat} (h : (p ++ i :: q).Nodup) : (p ++ i :: q).filter (fun j => !(Nat.beq j i)) = p ++ q := by
  have h' := List.nodup_append.1 h
  have hp : ∀ j ∈ p, j ≠ i := fun j hj => h'.2.2 j hj i (by simp)
  have hq : ∀ j ∈ q, j ≠ i := fun j hj e => by
    have := (List.nodup_cons.1 h'.2.1).1
    rw [e] at hj; exact this hj
  rw [List.filter_append, List.filter_cons]
  have hb : ∀ j, j ≠ i → (!(Nat.beq j i)) = true := fun j hj => by
    cases hh : Nat.beq j i with
    | false => rfl
    | true => exact absurd (Nat.eq_of_beq_eq_true hh) hj
  rw [List.filter_eq_self.2 (fun j hj => hb j (hp j hj)), List.filter_eq_self.2 (fun j hj => hb j (hq j hj))]
  have : (!(Nat.beq i i)) = false := by simp
  rw [this]
  simp
def rest (n : Nat) (listed : Array Bool) : List Nat := (List.range n).filter fun i => !listed.getD i true
theorem rest_set {n : Nat} {listed : Array Bool} (hs : listed.size = n) {i : Nat} {p q : List Nat} (h : rest n listed = p ++ i :: q) : rest n (listed.setIfInBounds i true) = p ++ q := by
  have hnd : (rest n listed).Nodup := List.nodup_range.filter _
  rw [h] at hnd
  rw [← filter_out hnd, ← h]
  simp only [rest, List.filter_filter]
  refine List.filter_congr fun j hj => ?_
  have hjn := List.mem_range.1 hj
  by_cases e : j = i
  · subst e
    have : (listed.setIfInBounds j true).getD j true = true := by simp [Array.getD_eq_getD_getElem?, hs, hjn]
    rw [this]; simp
  · have h1 : (listed.setIfInBounds i true).getD j true = listed.getD j true := by
      simp only [Array.getD_eq_getD_getElem?]
      rw [Array.getElem?_setIfInBounds_ne (fun h => e h.symm)]
    have h2 : Nat.beq j i = false := by
      cases hh : Nat.beq j i with
      | false => rfl
      | true => exact absurd (Nat.eq_of_beq_eq_true hh) e
    rw [h1, h2]; simp
theorem ready_mem {ops : Array Oper} {listed : Array Bool} {i : Nat} (h : i ∈ Region.ready .any ops listed) : i ∈ rest ops.size listed ∧ ∀ e ∈ (ops.getD i default).after.toList, Region.binds .any e = true → listed.getD e.on false = true := by
  unfold Region.ready at h
  obtain ⟨h1, h2⟩ := List.mem_filter.1 h
  have hi := List.mem_range.1 h1
  rw [Bool.and_eq_true] at h2
  refine ⟨List.mem_filter.2 ⟨h1, h2.1⟩, fun e he hb => ?_⟩
  have h3 := h2.2
  rw [Array.getElem?_eq_getElem hi] at h3
  simp only [Option.map_some, Option.getD_some] at h3
  have hget : ops.getD i default = ops[i] := by simp [hi]
  rw [hget] at he
  have h4 := Array.all_eq_true_iff_forall_mem.1 h3 e (by simpa using he)
  rw [hb] at h4
  simpa using h4
theorem ready_of {ops : Array Oper} {listed : Array Bool} {i : Nat} (h : i ∈ rest ops.size listed) (ha : ∀ e ∈ (ops.getD i default).after.toList, Region.binds .any e = true → listed.getD e.on false = true) : i ∈ Region.ready .any ops listed := by
  obtain ⟨h1, h2⟩ := List.mem_filter.1 h
  have hi := List.mem_range.1 h1
  refine List.mem_filter.2 ⟨h1, ?_⟩
  rw [Bool.and_eq_true]
  refine ⟨h2, ?_⟩
  have hget : ops.getD i default = ops[i] := by simp [hi]
  rw [Array.getElem?_eq_getElem hi]
  simp only [Option.map_some, Option.getD_some]
  refine Array.all_eq_true_iff_forall_mem.2 fun e he => ?_
  cases hb : Region.binds .any e with
  | false => rfl
  | true =>
    rw [ha e (by rw [hget]; simpa using he) hb]
    simp
theorem draw_any (hE : EnvOk P E) {C : Funs} (hC : C.Nat) (hf : ∀ f, Owes P C f) {ops : Array Oper} {z : State} {Q : Exit → Act → World → Prop} (hlow : ∀ k, k < ops.size → Nat.ble (aft ops k + 1) (bit k) = true) :
    ∀ (fuel : Nat) (listed : Array Bool) (X : Cfg) (s : State) (a : Act) (tr : List Foot), Rel X s a → listed.size = ops.size → fuel = (rest ops.size listed).length → Runs E C ops (rest ops.size listed) s tr z → tr.Pairwise (Free ops) →
      (∀ Y a', Ext X Y → Rel Y z a' → Q .normal a' Y.w) → wpAny P .any ops Q fuel listed a X.w := by
  intro fuel
  -- where nothing is ready nothing is left
  have done : ∀ (listed : Array Bool), listed.size = ops.size → Region.ready .any ops listed = [] → rest ops.size listed = [] := by
    intro listed hs hr
    rcases hl : rest ops.size listed with _ | ⟨i, r⟩
    · rfl
    -- the least that is left is ready
    have hmem : i ∈ rest ops.size listed := by rw [hl]; simp
    have hin := List.mem_range.1 (List.mem_filter.1 hmem).1
    have hready : i ∈ Region.ready .any ops listed := by
      refine ready_of hmem fun e he hb => ?_
      have hlt : e.on < i := below_bit (hlow i hin) (after_has _ e he hb)
      cases hx : listed.getD e.on false with
      | true => rfl
      | false =>
        exfalso
        have hlt2 : e.on < listed.size := by omega
        have hx2 : listed.getD e.on true = false := by
          simp only [Array.getD_eq_getD_getElem?, Array.getElem?_eq_getElem hlt2, Option.getD_some] at hx ⊢
          exact hx
        have hm : e.on ∈ rest ops.size listed := List.mem_filter.2 ⟨List.mem_range.2 (by omega), by rw [hx2]; rfl⟩
        have hsorted : (rest ops.size listed).Pairwise (· < ·) := List.pairwise_lt_range.filter _
        rw [hl] at hsorted hm
        rcases List.mem_cons.1 hm with e1 | hm
        · omega
        · have := (List.pairwise_cons.1 hsorted).1 _ hm
          omega
    rw [hr] at hready
    cases hready
  induction fuel with
  | zero =>
    intro listed X s a tr hr hs hfu hruns hpw hQ
    have hnil : rest ops.size listed = [] := List.eq_nil_of_length_eq_zero hfu.symm
    rw [hnil] at hruns
    obtain ⟨rfl, _⟩ := hruns
    refine ⟨?_, hQ X a (Ext.refl X) hr⟩
    rcases hrd : Region.ready .any ops listed with _ | ⟨i, r⟩
    · rfl
    · have := (ready_mem (i := i) (by rw [hrd]; simp)).1
      rw [hnil] at this
      cases this
  | succ fuel ih =>
    intro listed X s a tr hr hs hfu hruns hpw hQ
    refine ⟨fun hnone => ?_, fun i hi => ?_⟩
    · rw [done listed hs hnone] at hfu
      cases hfu
    · obtain ⟨hmem, haft⟩ := ready_mem hi
      obtain ⟨p, q, hpq⟩ := split_at hmem
      have hin := List.mem_range.1 (List.mem_filter.1 hmem).1
      rw [hpq] at hruns
      have htri := runs_i hruns
      obtain ⟨tp, f, tq, u, e1, e2, k1, k2, k3⟩ := to_front p s tr hruns (fun tp f tq e hl a' ha' => by
        have hfi : f.i = i := by
          rw [e, List.map_append, List.map_cons] at htri
          have := List.append_inj htri (by simp [hl])
          injection this.2
        have haj : a'.i ∈ p := by
          rw [e, List.map_append, List.map_cons] at htri
          have := List.append_inj htri (by simp [hl])
          rw [← this.1]
          exact List.mem_map.2 ⟨a', ha', rfl⟩
        rw [e] at hpw
        have hfree := (List.pairwise_append.1 hpw).2.2 a' ha' f (by simp)
        rcases hfree with hb | hb
        · exfalso
          rw [hfi] at hb
          obtain ⟨ed, he1, he2, he3⟩ := after_test _ _ hb
          have hlist := haft ed he1 he2
          have hrest : a'.i ∈ rest ops.size listed := by rw [hpq]; exact List.mem_append_left _ haj
          have hnl := (List.mem_filter.1 hrest).2
          have hlt := List.mem_range.1 (List.mem_filter.1 hrest).1
          have hlt2 : a'.i < listed.size := by omega
          rw [he3] at hlist
          simp only [Array.getD_eq_getD_getElem?, Array.getElem?_eq_getElem hlt2, Option.getD_some] at hlist hnl
          rw [hlist] at hnl
          cases hnl
        · exact hb)
      have hrest := rest_set hs hpq
      have hio : ops[i]? = some (ops.getD i default) := by simp [hin]
      refine step_wp hE hr hC hf hio (step_of_out hC k1) fun Y a' hext hrel => ?_
      refine ih (listed.setIfInBounds i true) Y _ a' (tp ++ tq) hrel (by simp [hs]) ?_ (by rw [hrest]; exact k3) ?_ (fun Z a2 hext2 hrel2 => hQ Z a2 (hext.trans hext2) hrel2)
      · rw [hrest]
        rw [hpq] at hfu
        simp only [List.length_append, List.length_cons] at hfu ⊢
        omega
      · rw [e1] at hpw
        obtain ⟨a1, a2, a3⟩ := List.pairwise_append.1 hpw
        exact List.pairwise_append.2 ⟨a1, (List.pairwise_cons.1 a2).2, fun x hx y hy => a3 x hx y (List.mem_cons_of_mem _ hy)⟩
/-- A region whose order is drawn. -/
theorem draw_does (hE : EnvOk P E) (hm : P.follows .mixedOrders = true) {C : Funs} (hC : C.Nat) (hf : ∀ f, Owes P C f) {id : Nat} {ops : Array Oper} {z : State} {Q : Exit → Act → World → Prop} (hr : Rel X s a) (h : stepsD E (C State) ops.toList ops.toList 0 s [] some = some z)
    (hQ : ∀ Y a', Ext X Y → Rel Y z a' → Q .normal a' Y.w) : (Code.region id ops true).wp P Q a X.w := by
  have hrange : (List.range ops.size).map (fun i => ops.getD i default) = ops.toList := by
    apply List.ext_getElem?
    intro i
    rw [List.getElem?_map]
    by_cases hi : i < ops.size
    · simp [hi]
    · simp [hi]
  have hrest : rest ops.size (Array.replicate ops.size false) = List.range ops.size := by
    refine List.filter_eq_self.2 fun i hi => ?_
    have := List.mem_range.1 hi
    simp [this]
  obtain ⟨trf, r1, _, r3, r4⟩ := stepsD_runs hC (List.range ops.size) 0 s [] (fun j k hj => by
    have := (List.getElem?_eq_some_iff.1 hj)
    obtain ⟨h1, h2⟩ := this
    simp at h2
    omega) (by rw [hrange]; exact h)
  have hk : Keep s X { X with w := { X.w with drawn := X.w.drawn + 1 } } := ⟨Nat.le_refl _, rfl, rfl, rfl, fun g _ => ⟨rfl, rfl⟩, rfl, fun _ _ _ => rfl⟩
  refine wp_region_any hm ?_
  exact draw_any hE hC hf (fun k hk => r4 k (List.mem_range.2 hk)) ops.size (Array.replicate ops.size false) _ s a trf (hr.keep hk) (by simp) (by rw [hrest]; simp) (by rw [hrest]; exact r1) r3 (fun Y a' hext hrel => hQ Y a' (hk.ext.trans hext) hrel)
end Go.Ref

/- Code does what the evaluator says. -/
set_option linter.unusedVariables false
set_option linter.unusedSimpArgs false
namespace Go.Ref
open Go
variable {P : Program} {E : Env} {X : Cfg} {s : State} {a : Act}

def Ex.exit' : Ex → Exit
  | .normal => .normal
  | .exit id => .exit id
  | .ret => .ret
theorem wp_rounds {Q : Exit → Act → World → Prop} {c : Code} (I : Nat → Act → World → Prop) (round : ∀ n a w, I n a w → ∃ m, n = m + 1 ∧ c.wp P (Exit.then (I m) Q) a w) {n : Nat} {a : Act} {w : World} (h₀ : I n a w) : (Code.loop c).wp P Q a w := by
  intro b k cs
  have key : ∀ n a w, I n a w → ∃ e a' w', Q e a' w' ∧ Arrives P (lone (b.at a (.code c :: .inLoop c :: k)) cs w) b k cs e a' w' := by
    intro n
    induction n with
    | zero => intro a w h; obtain ⟨m, hm, _⟩ := round 0 a w h; cases hm
    | succ n ih =>
      intro a w h
      obtain ⟨m, hm, hr⟩ := round (n + 1) a w h
      cases hm
      obtain ⟨e, a₁, w₁, hq, harr⟩ := hr b (.inLoop c :: k) cs
      cases e with
      | normal =>
        obtain ⟨e₂, a₂, w₂, hq₂, harr₂⟩ := ih a₁ w₁ hq
        exact ⟨e₂, a₂, w₂, hq₂, .of_steps (Steps.trans harr (.one step_inLoop)) harr₂⟩
      | exit id => exact ⟨_, a₁, w₁, hq, .pass (x := .inLoop c) rfl (fun _ _ => .inl (by simp)) harr⟩
      | goto l => exact ⟨_, a₁, w₁, hq, .pass (x := .inLoop c) rfl (fun _ _ => .inl (by simp)) harr⟩
      | ret => exact ⟨_, a₁, w₁, hq, .pass (x := .inLoop c) rfl (fun _ _ => .inl (by simp)) harr⟩
      | panic ch => exact ⟨_, a₁, w₁, hq, .pass (x := .inLoop c) rfl (fun _ _ => .inl (by simp)) harr⟩
      | outgrown => exact ⟨_, a₁, w₁, hq, .pass (x := .inLoop c) rfl (fun _ _ => .inl (by simp)) harr⟩
  obtain ⟨e, a', w', hq, harr⟩ := key n a w h₀
  exact ⟨e, a', w', hq, .of_steps (.one step_loop) harr⟩

/-! ### What is let go -/
theorem keepL_get {α : Type} (z : α) (l : List Nat) : ∀ (xs : List α) (i j : Nat), (keepL z l i xs)[j]? = (xs[j]?).map fun x => bif l.any (Nat.beq (i + j)) then x else z
  | [], i, j => by simp [keepL]
  | x :: r, i, 0 => by simp [keepL]
  | x :: r, i, j + 1 => by
    simp only [keepL, List.getElem?_cons_succ]
    rw [keepL_get z l r (i + 1) j, show i + 1 + j = i + (j + 1) by omega]
theorem keepL_len {α : Type} (z : α) (l : List Nat) : ∀ (xs : List α) (i : Nat), (keepL z l i xs).length = xs.length
  | [], i => rfl
  | x :: r, i => by simp [keepL, keepL_len z l r]
theorem forget_rel (hr : Rel X s a) {l : List Nat} {R : Type} {K : State → Option R} {z : R} (h : forget l s K = some z) : ∃ s', K s' = some z ∧ Rel X s' a := by
  unfold forget at h
  simp only at h
  cases hb : (keepL [.undef] l 0 s.sl).all (fun v => v.all (SV.roots l)) with
  | false => rw [hb] at h; cases h
  | true =>
    rw [hb] at h
    refine ⟨_, h, ?_⟩
    have hbs : s.bs = s.bs.headD none :: s.bs.tail := by
      have := hr.bsz
      cases hs : s.bs with
      | nil => rw [hs] at this; simp at this
      | cons b r => rfl
    have hget : ∀ (id : Nat) B, (s.bs.headD none :: keepL none l 0 s.bs.tail)[id]? = some (some B) → s.bs[id]? = some (some B) := by
      intro id B hB
      rw [hbs]
      cases id with
      | zero => exact hB
      | succ id =>
        simp only [List.getElem?_cons_succ] at hB ⊢
        rw [keepL_get] at hB
        obtain ⟨x, hx, he⟩ := Option.map_eq_some_iff.1 hB
        rw [hx]
        cases hl : l.any (Nat.beq (0 + id)) <;> rw [hl] at he
        · cases he
        · rw [← he]; rfl
    refine ⟨by rw [keepL_len]; exact hr.size, ?_, fun i v x hv hx => ?_, fun id B hB => hr.boxes id B (hget id B hB), fun i v id t p hv hm => ?_, hr.defers⟩
    · simp only [List.length_cons, keepL_len, List.length_tail]
      have := hr.bsz
      omega
    · rw [keepL_get] at hv
      obtain ⟨y, hy, rfl⟩ := Option.map_eq_some_iff.1 hv
      cases hl : l.any (Nat.beq (0 + i)) with
      | false => trivial
      | true => exact hr.slots i y x hy hx
    · have hroot : SV.roots l (.ptr id t p) = true := by
        have := List.all_eq_true.1 hb v (List.mem_of_getElem? hv)
        exact List.all_eq_true.1 this _ hm
      rw [keepL_get] at hv
      obtain ⟨y, hy, he⟩ := Option.map_eq_some_iff.1 hv
      have hm' : SV.ptr id t p ∈ y := by
        cases hl : l.any (Nat.beq (0 + i)) with
        | false => rw [hl] at he; subst he; simp at hm
        | true => rw [hl] at he; subst he; exact hm
      obtain ⟨B, hB⟩ := hr.live i y id t p hy hm'
      refine ⟨B, ?_⟩
      rw [hbs] at hB
      cases id with
      | zero => exact hB
      | succ id =>
        simp only [List.getElem?_cons_succ] at hB ⊢
        rw [keepL_get, hB]
        have : l.any (Nat.beq id) = true := hroot
        have h2 : l.any (Nat.beq (0 + id)) = true := by rw [Nat.zero_add]; exact this
        simp [this]

/-! ### Code -/
def CodeDoes (P : Program) (E : Env) (C : Funs) (k : Nat) (c : Code) : Prop :=
  ∀ (X : Cfg) (s : State) (a : Act) (e : Ex) (s' : State), Rel X s a → ev E (C (Ex × State)) k c s (fun e s => some (e, s)) = some (e, s') →
    ∀ (Q : Exit → Act → World → Prop), (∀ Y a', Ext X Y → Rel Y s' a' → Q e.exit' a' Y.w) → c.wp P Q a X.w
theorem loop_does {C : Funs} (hC : C.Nat) {k : Nat} {b : Code} (hb : CodeDoes P E C k b) {l lx : List Nat} {Q : Exit → Act → World → Prop} {e' : Ex} {s' : State} {X0 : Cfg} (hQ : ∀ Y a', Ext X0 Y → Rel Y s' a' → Q e'.exit' a' Y.w) :
    ∀ (n : Nat) (a : Act) (w : World), (∃ X s, X.w = w ∧ Ext X0 X ∧ Rel X s a ∧ loopR (ev E (C (Ex × State)) k b) l lx n s (fun e s => some (e, s)) = some (e', s')) →
      ∃ m, n = m + 1 ∧ b.wp P (Exit.then (fun a w => ∃ X s, X.w = w ∧ Ext X0 X ∧ Rel X s a ∧ loopR (ev E (C (Ex × State)) k b) l lx m s (fun e s => some (e, s)) = some (e', s')) Q) a w := by
  rintro n a w ⟨X, s, rfl, hext, hr, h⟩
  cases n with
  | zero => cases h
  | succ m =>
    refine ⟨m, rfl, ?_⟩
    simp only [loopR] at h
    obtain ⟨⟨e1, s2⟩, h1, h2⟩ := nat_some (ev_nat hC b _ (fun e s => some (e, s)) (K := fun z => match z.1 with
      | .normal => forget l z.2 fun s => loopR (ev E (C (Ex × State)) k b) l lx m s (fun e s => some (e, s))
      | e => forget lx z.2 fun s => some (e, s)) (fun e s => by cases e <;> rfl) s) h
    refine hb X s a e1 s2 hr h1 _ fun Y a' hext2 hrel => ?_
    cases e1 with
    | normal =>
      obtain ⟨s3, h3, hr3⟩ := forget_rel hrel h2
      exact ⟨Y, s3, rfl, hext.trans hext2, hr3, h3⟩
    | exit id =>
      obtain ⟨s3, h3, hr3⟩ := forget_rel hrel h2
      cases h3
      exact hQ Y a' (hext.trans hext2) hr3
    | ret =>
      obtain ⟨s3, h3, hr3⟩ := forget_rel hrel h2
      cases h3
      exact hQ Y a' (hext.trans hext2) hr3
theorem code_does (hE : EnvOk P E) (hm : P.follows .mixedOrders = true) {C : Funs} (hC : C.Nat) (hf : ∀ f, Owes P C f) (k : Nat) : ∀ c : Code, CodeDoes P E C k c
  | .skip => fun X s a e s' hr h Q hQ => by
    simp only [ev, Option.some.injEq, Prod.mk.injEq] at h
    obtain ⟨rfl, rfl⟩ := h
    exact wp_skip (hQ X a (Ext.refl X) hr)
  | .region id ops d => fun X s a e s' hr h Q hQ => by
    simp only [ev] at h
    cases d with
    | true =>
      simp only [cond_true] at h
      obtain ⟨s1, h1, h2⟩ := nat_some (stepsD_nat hC (F := fun s => some (Ex.normal, s)) (G := some) (K := fun s => some (Ex.normal, s)) (fun _ => rfl) ops.toList 0 s []) h
      cases h2
      exact draw_does hE hm hC hf hr h1 hQ
    | false =>
      simp only [cond_false] at h
      obtain ⟨s1, h1, h2⟩ := nat_some (steps_nat hC (F := fun s => some (Ex.normal, s)) (G := some) (K := fun s => some (Ex.normal, s)) (fun _ => rfl) ops.toList s) h
      cases h2
      refine wp_region (steps_wp hE hC hf (List.range ops.size) X s a hr (fun i hi => List.mem_range.1 hi) ?_ hQ)
      have : (List.range ops.size).map (fun i => ops.getD i default) = ops.toList := by
        apply List.ext_getElem?
        intro i
        rw [List.getElem?_map]
        by_cases hi : i < ops.size
        · simp [hi]
        · simp [hi]
      rw [this]; exact h1
  | .seq x y => fun X s a e s' hr h Q hQ => by
    simp only [ev] at h
    obtain ⟨⟨e1, s1⟩, h1, h2⟩ := nat_some (ev_nat hC x _ (fun e s => some (e, s)) (K := fun z => match z.1 with
      | .normal => ev E (C (Ex × State)) k y z.2 (fun e s => some (e, s))
      | e => some (e, z.2)) (fun e s => by cases e <;> rfl) s) h
    refine wp_seq (code_does hE hm hC hf k x X s a e1 s1 hr h1 _ fun Y a' hext hrel => ?_)
    cases e1 with
    | normal => exact code_does hE hm hC hf k y Y s1 a' e s' hrel h2 Q fun Z a2 hext2 hrel2 => hQ Z a2 (hext.trans hext2) hrel2
    | exit id => cases h2; exact hQ Y a' hext hrel
    | ret => cases h2; exact hQ Y a' hext hrel
  | .cond c x y => fun X s a e s' hr h Q hQ => by
    simp only [ev] at h
    have hc := hr.op1 c
    split at h
    case h_2 => cases h
    rename_i p w hs
    rw [hs] at hc
    have hv := repv_bool_inv hc
    have hr1 : Rel X (s.putSlot (tmpOf c) (bl p)) a := by
      cases c with
      | tmp i =>
        have hsl : s.slot i = [.dat .bool p w] := by
          have hh : one (s.slot i) = .dat .bool p w := hs
          match hm : s.slot i, hh with
          | [sv], hh => have hh' : sv = .dat .bool p w := hh; rw [hh']
          | [], hh => cases hh
          | _ :: _ :: _, hh => cases hh
        exact (hr.know hsl).1
      | _ => exact hr
    refine wp_cond_split hv (fun hp => ?_) (fun hp => ?_)
    · subst hp
      exact code_does hE hm hC hf k x X _ a e s' hr1 h Q hQ
    · subst hp
      exact code_does hE hm hC hf k y X _ a e s' hr1 h Q hQ
  | .block id b => fun X s a e s' hr h Q hQ => by
    simp only [ev] at h
    obtain ⟨⟨e1, s1⟩, h1, h2⟩ := nat_some (ev_nat hC b _ (fun e s => some (e, s)) (K := fun z => match z.1 with
      | .exit j => bif Nat.beq j id then some (.normal, z.2) else some (.exit j, z.2)
      | e => some (e, z.2)) (fun e s => by cases e <;> rfl) s) h
    refine wp_block (code_does hE hm hC hf k b X s a e1 s1 hr h1 _ fun Y a' hext hrel => ?_)
    cases e1 with
    | normal => cases h2; exact hQ Y a' hext hrel
    | ret => cases h2; exact hQ Y a' hext hrel
    | exit j =>
      simp only at h2
      show (if j = id then Q .normal a' Y.w else Q (.exit j) a' Y.w)
      cases hj : Nat.beq j id with
      | true =>
        rw [hj] at h2; cases h2
        rw [if_pos (Nat.eq_of_beq_eq_true hj)]
        exact hQ Y a' hext hrel
      | false =>
        rw [hj] at h2; cases h2
        rw [if_neg (Nat.ne_of_beq_eq_false hj)]
        exact hQ Y a' hext hrel
  | .loop b => fun X s a e s' hr h Q hQ => by
    simp only [ev] at h
    obtain ⟨s1, h, hr1⟩ := forget_rel hr h
    exact wp_rounds _ (loop_does hC (code_does hE hm hC hf k b) (Q := Q) hQ) ⟨X, s1, rfl, Ext.refl X, hr1, h⟩
  | .exit id => fun X s a e s' hr h Q hQ => by
    simp only [ev, Option.some.injEq, Prod.mk.injEq] at h
    obtain ⟨rfl, rfl⟩ := h
    exact wp_exit (hQ X a (Ext.refl X) hr)
  | .ret => fun X s a e s' hr h Q hQ => by
    simp only [ev, Option.some.injEq, Prod.mk.injEq] at h
    obtain ⟨rfl, rfl⟩ := h
    exact wp_ret (hQ X a (Ext.refl X) hr)
  | .rangeFunc .. => fun X s a e s' hr h Q hQ => by simp only [ev] at h; cases h
  | .scope _ => fun X s a e s' hr h Q hQ => by simp only [ev] at h; cases h
  | .label _ => fun X s a e s' hr h Q hQ => by simp only [ev] at h; cases h
  | .goto _ => fun X s a e s' hr h Q hQ => by simp only [ev] at h; cases h
  | .refuse _ => fun X s a e s' hr h Q hQ => by simp only [ev] at h; cases h
end Go.Ref

/- A function owes what the evaluator says of it. -/
set_option linter.unusedVariables false
set_option linter.unusedSimpArgs false
namespace Go.Ref
open Go
variable {P : Program} {E : Env} {X : Cfg} {s : State} {a : Act}

/-- Rows at the results' places stay. -/
def StayR (X Y : Cfg) : Prop := Y.w = X.w ∧ ∀ g j p n, X.ow g = .row (.r j p) n → Y.ow g = .row (.r j p) n
theorem StayR.refl (X : Cfg) : StayR X X := ⟨rfl, fun _ _ _ _ h => h⟩
theorem StayR.trans {X Y Z : Cfg} (h : StayR X Y) (k : StayR Y Z) : StayR X Z := ⟨k.1.trans h.1, fun g j p n e => k.2 g j p n (h.2 g j p n e)⟩
theorem RepV.stayR {X Y : Cfg} (h : StayR X Y) (hx : Ext X Y) (hβ : Y.β = X.β) {j : Nat} {sv : SV} {v : Value} (hr : RepV X (.r j) sv v) : RepV Y (.r j) sv v := by
  cases sv with
  | undef => trivial
  | skip => exact hr
  | nilS => exact hr
  | nilP => exact hr
  | dat t x own =>
    obtain ⟨cs, h1, h2, h3⟩ := hr
    refine ⟨cs, h1.mono hx, h2, fun p hp => ?_⟩
    obtain ⟨e, t', xs, v, g0, g1, g2, g3⟩ := h3 p hp
    refine ⟨e, t', xs, v, g0, g1, g2, ?_⟩
    rcases g3 with ho | ⟨g, cap, cur, k1, k2, k3, k4, k5, k6⟩
    · exact .inl ho
    · exact .inr ⟨g, cap, cur, k1, by rw [h.1]; exact k2, k3, k4, k5, h.2 _ _ _ _ k6⟩
  | ptr id t p => obtain ⟨r, h1, h2⟩ := hr; exact ⟨r, by rw [hβ]; exact h1, h2⟩
  | view t x =>
    obtain ⟨ad, cs, h1, h2, h3, h4⟩ := hr
    exact ⟨ad, cs, h1, h2, h3.mono hx, fun i u hi => hx.sees _ _ (h4 i u hi)⟩
theorem turn_stayR {X : Cfg} {i j : Nat} {q : List Nat → Place} : StayR X (X.turn i j q) := ⟨rfl, fun g j p n h => by simp only [Cfg.turn, h]⟩
theorem turnb_stayR {X : Cfg} {id : Nat} {p : List Nat} {q : List Nat → Place} : StayR X (X.turnb id p q) := ⟨rfl, fun g j p n h => by simp only [Cfg.turnb, h]⟩

theorem res_run (hE : EnvOk P E) : ∀ (rs : List ResultVar) (X : Cfg) (s s' : State) (l : List SV) (j0 : Nat), Rel X s a → resOf E s rs = some (l, s') →
    ∃ Y vs, Y.w = X.w ∧ Ext X Y ∧ StayR X Y ∧ Y.β = X.β ∧ Rel Y s' a ∧ vs.length = l.length ∧ (∀ (j : Nat) sv v, l[j]? = some sv → vs[j]? = some v → RepV Y (.r (j0 + j)) sv v) ∧
      (rs.mapM (m := Sem) fun x => match x with
        | .tmp t => pure (a.tmps.getD t Go.undef)
        | .cell ad t => do loadVar t (← asAddr (a.tmps.getD ad Go.undef))).run P X.w = .ok vs X.w
  | [], X, s, s', l, j0, hr, h => by
    simp only [resOf, Option.some.injEq, Prod.mk.injEq] at h
    obtain ⟨rfl, rfl⟩ := h
    exact ⟨X, [], rfl, Ext.refl X, StayR.refl X, rfl, hr, rfl, fun j sv v hl => by simp at hl, by simp⟩
  | .tmp t :: r, X, s, s', l, j0, hr, h => by
    simp only [resOf] at h
    split at h
    case h_2 => cases h
    rename_i l1 s1 h1
    cases h
    -- the value of the slot, taken over
    have key : ∃ Y, Y.w = X.w ∧ Ext X Y ∧ StayR X Y ∧ Y.β = X.β ∧ Rel Y (s.close [(t, 0)]) a ∧ RepV Y (.r j0) (one (s.slot t)) (a.tmps.getD t Go.undef) := by
      have hop := hr.op1 (.tmp t)
      cases hs : one (s.slot t) with
      | dat ty x w =>
        have hop : RepV X (.c t 0) (one (s.slot t)) (a.tmps.getD t Go.undef) := hop
        rw [hs] at hop
        obtain ⟨cs, g1, g2, g3⟩ := hop
        have hT : Turn (s.close [(t, 0)]) X (X.turn t 0 (.r j0)) := turn_turn fun p => Flag.close
        exact ⟨X.turn t 0 (.r j0), rfl, hT.ext, turn_stayR, rfl, (hr.close _).mod hT.mod, cs, g1.sees_mono (fun _ _ => hT.sees.1), g2, g3.turned⟩
      | _ =>
        refine ⟨X, rfl, Ext.refl X, StayR.refl X, rfl, hr.close _, ?_⟩
        have hop : RepV X (.c t 0) (one (s.slot t)) (a.tmps.getD t Go.undef) := hop
        rw [hs] at hop
        exact hop
    obtain ⟨Y, hw, hext, hst, hβ, hrel, hrep⟩ := key
    obtain ⟨Z, vs, hw2, hext2, hst2, hβ2, hrel2, hlen, hreps, hrun⟩ := res_run hE r Y _ s' l1 (j0 + 1) hrel h1
    refine ⟨Z, a.tmps.getD t Go.undef :: vs, hw2.trans hw, hext.trans hext2, hst.trans hst2, hβ2.trans hβ, hrel2, by simp [hlen], fun j sv v hl hv => ?_, ?_⟩
    · cases j with
      | zero =>
        simp only [List.getElem?_cons_zero, Option.some.injEq] at hl hv
        subst hl hv
        exact hrep.stayR hst2 hext2 hβ2
      | succ j =>
        simp only [List.getElem?_cons_succ] at hl hv
        rw [show j0 + (j + 1) = j0 + 1 + j by omega]
        exact hreps j sv v hl hv
    · rw [hw] at hrun
      simp only [List.mapM_cons, Sem.run_bind, Sem.run_pure, Result.andThen_ok, hrun]
  | .cell p T :: r, X, s, s', l, j0, hr, h => by
    simp only [resOf] at h
    split at h
    case h_2 => cases h
    rename_i id tt t hsl hT
    split at h
    case h_2 => cases h
    rename_i B hB
    split at h
    case isFalse => cases h
    rename_i heq
    have hte := Ty.eqb_eq heq
    split at h
    case h_2 => cases h
    rename_i l1 s1 h1
    cases h
    have hb := box_some hB
    obtain ⟨r0, hβ, cs, T', hheap, hrep, how, hown⟩ := hr.boxes id B hb
    have hslot := hr.slot p
    rw [hsl] at hslot
    obtain ⟨r1, hβ1, hv, _⟩ : RepV X (.c p 0) (.ptr id tt []) (a.tmps.getD p Go.undef) := hslot
    rw [hβ] at hβ1
    cases hβ1
    have hr1 : Rel X (s.putBox (some (id, { B with own := [] }))) a := hr.setBox hb hβ ⟨cs, T', hheap, hrep, how, ownp_nil⟩
    have hnf : ∀ q, ¬ Flag (s.putBox (some (id, { B with own := [] }))) (.b id ([] ++ q)) := by
      rintro q ⟨B2, hB2, hp⟩
      rw [putBox_get hb] at hB2
      cases hB2
      cases hp
    have hT2 := turnb_turn (X := X) (q := .r j0) hnf
    have hrepY : RepV (X.turnb id [] (.r j0)) (.r j0) (.dat B.t B.x B.own) (mkv B.t cs.toList) := by
      refine ⟨cs.toList, hrep.sees_mono (fun _ _ => hT2.sees.1), rfl, fun q hq => ?_⟩
      obtain ⟨e, t', xs, v, g0, g1, g2, g3⟩ := hown q hq
      exact ⟨e, t', xs, v, g0, g1, g2, OwnAt.turnedb (p := []) g3⟩
    obtain ⟨Z, vs, hw2, hext2, hst2, hβ2, hrel2, hlen, hreps, hrun⟩ := res_run hE r (X.turnb id [] (.r j0)) _ s' l1 (j0 + 1) (hr1.mod hT2.mod) h1
    refine ⟨Z, mkv B.t cs.toList :: vs, hw2, hT2.ext.trans hext2, turnb_stayR.trans hst2, hβ2, hrel2, by simp [hlen], fun j sv v hl hv => ?_, ?_⟩
    · cases j with
      | zero =>
        simp only [List.getElem?_cons_zero, Option.some.injEq] at hl hv
        subst hl hv
        exact hrepY.stayR hst2 hext2 hβ2
      | succ j =>
        simp only [List.getElem?_cons_succ] at hl hv
        rw [show j0 + (j + 1) = j0 + 1 + j by omega]
        exact hreps j sv v hl hv
    · have hl := loadVar_run (P := P) hE (hte ▸ hT : E.ty T = some B.t) hrep (ad := ⟨r0, 0, none⟩) (w := X.w) (fun i v hi => by
        rw [add_lit, Nat.zero_add]
        simp only [World.cell?, hheap]
        simpa using hi)
      have hw3 : (X.turnb id [] (.r j0)).w = X.w := rfl
      rw [hw3] at hrun
      have hv' : a.tmps.getD p Go.undef = .pointer (some ⟨r0, 0, none⟩) := by simpa [Ty.off] using hv
      have ha : (asAddr (.pointer (some ⟨r0, 0, none⟩))).run P X.w = .ok ⟨r0, 0, none⟩ X.w := by simp [asAddr]
      simp only [List.mapM_cons, Sem.run_bind, Sem.run_pure, Result.andThen_ok, hrun, hv', ha, hl]

/-! ### A new box that is answered -/
def Cfg.zero (X : Cfg) (id : Nat) : Cfg :=
  { X with ow := fun g => match X.ow g with
    | .box id' => if id' = id then .box 0 else .box id'
    | .row (.b id' p) n => if id' = id then .row (.b 0 p) n else .row (.b id' p) n
    | w => w }
theorem zero_sees {id : Nat} {ad : Addr} {v : Value} (h : X.sees ad v) : (X.zero id).sees ad v := by
  refine ⟨h.1, h.2.1, ?_⟩
  have := h.2.2
  simp only [Cfg.zero]
  cases hx : X.ow ad.block with
  | box i => rw [hx] at this; exact this.elim
  | row pl n =>
    rw [hx] at this
    cases pl with
    | b i p => simp only; split <;> exact this
    | _ => exact this
  | _ => rw [hx] at this; exact this
theorem zero_ext {id : Nat} : Ext X (X.zero id) where
  sees := fun _ _ => zero_sees
  size := Nat.le_refl _
  os := rfl
  tape := rfl
  output := rfl
  β0 := rfl
  still := fun g _ hst => by
    refine ⟨?_, rfl⟩
    simp only [Cfg.zero]
    cases hx : X.ow g with
    | box i => rw [hx] at hst; exact hst.elim
    | row pl n => rw [hx] at hst; exact hst.elim
    | _ => rfl
theorem BoxAt.zero {id r : Nat} {B : Box} (h : BoxAt X id r B) : BoxAt (X.zero id) 0 r B := by
  obtain ⟨cs, T, h1, h2, h3, h4⟩ := h
  refine ⟨cs, T, h1, h2.sees_mono (fun _ _ => zero_sees), by simp [Cfg.zero, h3], fun p hp => ?_⟩
  obtain ⟨e, t', xs, v, g0, g1, g2, g3⟩ := h4 p hp
  refine ⟨e, t', xs, v, g0, g1, g2, ?_⟩
  rcases g3 with ho | ⟨g, cap, cur, k1, k2, k3, k4, k5, k6⟩
  · exact .inl ho
  · exact .inr ⟨g, cap, cur, k1, k2, k3, k4, k5, by simp [Cfg.zero, k6]⟩
theorem RepV.zero {id j r0 : Nat} {sv : SV} {v : Value} (hp : ∀ id' t p, sv = .ptr id' t p → X.β id' = some r0) (h : RepV X (.r j) sv v) : RepV { X.zero id with β := fun _ => some r0 } (.r j) (sv.reptr 0) v := by
  cases sv with
  | undef => trivial
  | skip => exact h
  | nilS => exact h
  | nilP => exact h
  | dat t x own =>
    obtain ⟨cs, h1, h2, h3⟩ := h
    refine ⟨cs, Rep.sees_mono (Y := { X.zero id with β := fun _ => some r0 }) (fun ad v hs => (zero_sees hs : (X.zero id).sees ad v)) h1, h2, fun p hp => ?_⟩
    obtain ⟨e, t', xs, v, g0, g1, g2, g3⟩ := h3 p hp
    refine ⟨e, t', xs, v, g0, g1, g2, ?_⟩
    rcases g3 with ho | ⟨g, cap, cur, k1, k2, k3, k4, k5, k6⟩
    · exact .inl ho
    · exact .inr ⟨g, cap, cur, k1, k2, k3, k4, k5, by simp [Cfg.zero, k6]⟩
  | ptr id' t p =>
    obtain ⟨r, h1, h2, h3⟩ := h
    have := hp id' t p rfl
    rw [h1] at this
    cases this
    exact ⟨r0, rfl, h2, h3⟩
  | view t x =>
    obtain ⟨ad, cs, h1, h2, h3, h4⟩ := h
    exact ⟨ad, cs, h1, h2, Rep.sees_mono (Y := { X.zero id with β := fun _ => some r0 }) (fun ad v hs => (zero_sees hs : (X.zero id).sees ad v)) h3, fun i u hi => (zero_sees (h4 i u hi) : (X.zero id).sees _ _)⟩
theorem RepV.anyβ {j r0 : Nat} {sv : SV} {v : Value} (hp : ∀ id' t p, sv ≠ .ptr id' t p) (h : RepV X (.r j) sv v) : RepV { X with β := fun _ => some r0 } (.r j) sv v := by
  cases sv with
  | undef => trivial
  | skip => exact h
  | nilS => exact h
  | nilP => exact h
  | dat t x own =>
    obtain ⟨cs, h1, h2, h3⟩ := h
    exact ⟨cs, Rep.sees_mono (X := X) (Y := { X with β := fun _ => some r0 }) (fun ad v (hs : X.sees ad v) => (hs : ({ X with β := fun _ => some r0 } : Cfg).sees ad v)) h1, h2, h3⟩
  | ptr id' t p => exact absurd rfl (hp id' t p)
  | view t x =>
    obtain ⟨ad, cs, h1, h2, h3, h4⟩ := h
    exact ⟨ad, cs, h1, h2, Rep.sees_mono (X := X) (Y := { X with β := fun _ => some r0 }) (fun ad v (hs : X.sees ad v) => (hs : ({ X with β := fun _ => some r0 } : Cfg).sees ad v)) h3, h4⟩
theorem ptrs_mem : ∀ {l : List SV} {id : Nat} {t : Ty} {p : List Nat}, SV.ptr id t p ∈ l → id ∈ ptrsOf l
  | v :: r, id, t, p, h => by
    rcases List.mem_cons.1 h with e | h
    · subst e; simp [ptrsOf]
    · have := ptrs_mem h
      cases v <;> simp [ptrsOf, this]
theorem repl_of {l : List SV} {vs : List Value} (hlen : vs.length = l.length) (h : ∀ (j : Nat) sv v, l[j]? = some sv → vs[j]? = some v → RepV X (.r j) sv v) : RepL X .r l (if h : vs.toArray.size = 1 then vs.toArray[0] else .tuple vs.toArray) := by
  match l, vs, hlen with
  | [sv], [v], _ => exact h 0 sv v rfl rfl
  | [], [], _ => exact ⟨#[], rfl, rfl, fun j s u hs => by simp at hs⟩
  | x :: y :: r, u :: v :: w, hlen =>
    refine ⟨(u :: v :: w).toArray, by simp, by simpa using hlen, fun j s z hs hz => h j s z hs (by simpa using hz)⟩
theorem finish_leave {Z : Cfg} {s' : State} {b : Option Box} {l' r : List SV} {b' : Option Box} {vs : List Value} (hX : Ext X Z) (hrel2 : Rel Z s' a) (hlen : vs.length = l'.length) (hreps' : ∀ (j : Nat) sv v, l'[j]? = some sv → vs[j]? = some v → RepV Z (.r j) sv v)
    (hr2 : finish s' b l' (fun r b => some (r, b)) = some (r, b')) : ∃ Y', Y'.w = Z.w ∧ Ext X Y' ∧ Leave X Y' b r b' (if h : vs.toArray.size = 1 then vs.toArray[0] else .tuple vs.toArray) := by
  unfold finish at hr2
  cases b with
  | some B =>
    cases hp : ptrsOf l' with
    | cons _ _ => rw [hp] at hr2; cases hr2
    | nil =>
      rw [hp] at hr2
      have hno : ∀ id t p, SV.ptr id t p ∉ l' := fun id t p hm => by
        have := ptrs_mem hm
        rw [hp] at this; cases this
      cases hB' : s'.box 0 with
      | none => simp only [hB'] at hr2; cases hr2
      | some B' =>
        simp only [hB'] at hr2
        cases hr2
        obtain ⟨r0, h3, h4⟩ := hrel2.boxes 0 B' (box_some hB')
        refine ⟨Z, rfl, hX, r0, repl_of hlen fun j sv v h1 h2 => (hreps' j sv v h1 h2).anyβ (fun id t p e => hno id t p (e ▸ List.mem_of_getElem? h1)), fun B2 hB2 => ?_, fun _ => hno⟩
        cases hB2
        exact ⟨h4, fun _ => by rw [← hX.β0]; exact h3⟩
  | none =>
    cases hp : ptrsOf l' with
    | nil =>
      rw [hp] at hr2
      have hno : ∀ id t p, SV.ptr id t p ∉ l' := fun id t p hm => by
        have := ptrs_mem hm
        rw [hp] at this; cases this
      cases hr2
      exact ⟨Z, rfl, hX, 0, repl_of hlen fun j sv v h1 h2 => (hreps' j sv v h1 h2).anyβ (fun id t p e => hno id t p (e ▸ List.mem_of_getElem? h1)), (fun B2 hB2 => by cases hB2), fun _ => hno⟩
    | cons id rest =>
      rw [hp] at hr2
      cases rest with
      | cons _ _ => cases hr2
      | nil =>
        cases hB : s'.box id with
        | none => simp only [hB] at hr2; cases hr2
        | some B =>
          simp only [hB] at hr2
          cases hr2
          obtain ⟨r0, h3, h4⟩ := hrel2.boxes id B (box_some hB)
          refine ⟨Z.zero id, rfl, hX.trans zero_ext, r0, ?_, fun B2 hB2 => ?_, fun hh => ?_⟩
          · refine repl_of (by simpa using hlen) fun j sv v h1 h2 => ?_
            rw [List.getElem?_map] at h1
            obtain ⟨s0, hs0, rfl⟩ := Option.map_eq_some_iff.1 h1
            refine (hreps' j s0 v hs0 h2).zero fun id' t p e => ?_
            have := ptrs_mem (e ▸ List.mem_of_getElem? hs0)
            rw [hp] at this
            simp only [List.mem_singleton] at this
            subst this
            exact h3
          · cases hB2
            exact ⟨h4.zero, fun hh => by cases hh⟩
          · rcases hh with hh | hh <;> cases hh
/-- What a function's body comes to. -/
theorem normA_len : ∀ (ts : List Ty) (l : List SV), (normA ts l).length = l.length
  | [], l => by simp [normA]
  | t :: r, [] => by simp [normA]
  | t :: r, v :: q => by
    cases t <;> cases v <;> simp [normA, normA_len r q]
theorem normA_rep {X : Cfg} : ∀ (ts : List Ty) (l : List SV) (i : Nat) (sv : SV) (v : Value), (normA ts l)[i]? = some sv → (∀ sv, l[i]? = some sv → ∃ pl, RepV X pl sv v) → ∀ q, (∃ sv0, l[i]? = some sv0 ∧ (sv = sv0 ∨ sv = sv0.shut ∨ sv0 = .nilS)) ∧ ((∀ sv0, l[i]? = some sv0 → RepV X q sv0 v) → RepV X q sv v)
  | [], l, i, sv, v, h, _, q => by
    have h : l[i]? = some sv := by simpa [normA] using h
    exact ⟨⟨sv, h, .inl rfl⟩, fun hh => hh sv h⟩
  | t :: r, [], i, sv, v, h, _, q => by simp [normA] at h
  | t :: r, x :: y, i, sv, v, h, hx, q => by
    cases i with
    | zero =>
      have key : (normA (t :: r) (x :: y))[0]? = some sv → (sv = x.shut) ∨ (x = .nilS ∧ ∃ e u, sv = .dat (.sl e u) ([] : List (El u)) []) := by
        intro h
        cases t <;> cases x <;> simp only [normA, List.getElem?_cons_zero, Option.some.injEq] at h <;> first | exact .inl h.symm | exact .inr ⟨rfl, _, _, h.symm⟩
      rcases key h with rfl | ⟨rfl, e, u, rfl⟩
      · exact ⟨⟨x, rfl, .inr (.inl rfl)⟩, fun hh => (hh x rfl).shut⟩
      · refine ⟨⟨_, rfl, .inr (.inr rfl)⟩, fun hh => ?_⟩
        have := hh _ rfl
        exact ⟨[.slice none 0 0], ⟨none, 0, rfl, Nat.le_refl _, fun j x hj => by simp at hj⟩, this, ownp_nil⟩
    | succ i =>
      have h' : (normA r y)[i]? = some sv := by
        cases t <;> cases x <;> simpa [normA] using h
      have := normA_rep r y i sv v h' (fun sv hs => hx sv (by simpa using hs)) q
      simpa using this
theorem normA_ptr {ts : List Ty} {l : List SV} {id : Nat} {t : Ty} {p : List Nat} (h : SV.ptr id t p ∈ normA ts l) : SV.ptr id t p ∈ l := by
  induction ts generalizing l with
  | nil => simpa [normA] using h
  | cons u r ih =>
    cases l with
    | nil => simp [normA] at h
    | cons v q =>
      have key : SV.ptr id t p = v.shut ∨ SV.ptr id t p ∈ normA r q := by
        cases u <;> cases v <;> simp [normA, SV.shut] at h ⊢ <;> first | exact h | exact .inr h | skip
      rcases key with e | hm
      · rw [shut_ptr e.symm]; simp
      · exact List.mem_cons_of_mem _ (ih hm)
theorem fn_owes (hE : EnvOk P E) (hm : P.follows .mixedOrders = true) {C C0 : Funs} (hC0 : C0.Nat) (hf0 : ∀ f, Owes P C0 f) {f : FuncId} {fn : Func} {code : Code} (hfn : P.funcs[f]? = some fn) (hname : (fn.name == "runtime.NumGoroutine") = false) (hbody : fn.body = some code)
    (hC : ∀ (l : List SV) (b : Option Box) (r : List SV) (b' : Option Box), C (List SV × Option Box) f l b (fun r b => some (r, b)) = some (r, b') → ∃ k, evFn E (C0 (List SV × Option Box)) k fn code l b (fun r b => some (r, b)) = some (r, b')) : Owes P C f := by
  intro l b r b' h
  refine ⟨⟨fn, code, hfn, hname, hbody⟩, fun X args hen => ?_⟩
  obtain ⟨k, h⟩ := hC l b r b' h
  unfold evFn at h
  simp only at h
  obtain ⟨⟨e, s⟩, h1, h2⟩ := nat_some (ev_nat hC0 code _ (fun e s => some (e, s)) (K := fun z => match z.1 with
    | .exit _ => none
    | _ => match resOf E z.2 fn.results.toList with
      | some (l, s') => finish s' b l (fun r b => some (r, b))
      | none => none) (fun e s => by cases e <;> rfl) _) h
  refine calls_of_wp hfn hbody ?_
  -- the frame that is entered
  have hsz := hen.size
  refine code_does hE hm hC0 hf0 k code X _ _ e s (?_ : Rel X _ _) h1 _ fun Y a' hext hrel => ?_
  · have hnl := normA_len E.ps l
    refine ⟨by simp [hsz, hnl], by simp [hnl], fun i sl v hs hv => ?_, fun id B hB => ?_, fun i sl id t p hs hm => ?_, rfl⟩
    · by_cases hi : i < l.length
      · rw [List.getElem?_append_left (by simpa [hnl] using hi), List.getElem?_map] at hs
        obtain ⟨sv, hsv, rfl⟩ := Option.map_eq_some_iff.1 hs
        rw [Array.getElem?_append_left (by omega)] at hv
        exact (normA_rep E.ps l i sv v hsv (fun sv h0 => ⟨_, hen.rep i sv v h0 hv⟩) (.c i 0)).2 fun sv0 h0 => hen.rep i sv0 v h0 hv
      · rw [List.getElem?_append_right (by simp [hnl]; omega), List.getElem?_replicate] at hs
        split at hs
        · cases hs; trivial
        · cases hs
    · cases id with
      | zero =>
        simp only [List.getElem?_cons_zero, Option.some.injEq] at hB
        exact hen.box B hB
      | succ id =>
        simp only [List.getElem?_cons_succ, List.getElem?_replicate] at hB
        split at hB <;> cases hB
    · by_cases hi : i < l.length
      · rw [List.getElem?_append_left (by simpa [hnl] using hi), List.getElem?_map] at hs
        obtain ⟨sv, hsv, rfl⟩ := Option.map_eq_some_iff.1 hs
        simp only [List.mem_singleton] at hm
        subst hm
        obtain ⟨rfl, hb⟩ := hen.ptr id t p (normA_ptr (List.mem_of_getElem? hsv))
        cases b with
        | none => cases hb
        | some B => exact ⟨B, rfl⟩
      · rw [List.getElem?_append_right (by simp [hnl]; omega), List.getElem?_replicate] at hs
        split at hs
        · cases hs; simp at hm
        · cases hs
  · -- what is answered
    have hres : ∃ l s', resOf E s fn.results.toList = some (l, s') ∧ finish s' b l (fun r b => some (r, b)) = some (r, b') ∧ (e = .normal ∨ e = .ret) := by
      cases e with
      | exit id => cases h2
      | normal =>
        simp only at h2
        split at h2
        · exact ⟨_, _, by assumption, h2, .inl rfl⟩
        · cases h2
      | ret =>
        simp only at h2
        split at h2
        · exact ⟨_, _, by assumption, h2, .inr rfl⟩
        · cases h2
    obtain ⟨l', s', hr1, hr2, he⟩ := hres
    obtain ⟨Z, vs, hw, hext2, hst, hβ, hrel2, hlen, hreps, hrun⟩ := res_run hE fn.results.toList Y s s' l' 0 hrel hr1
    have hrun2 : (results fn a'.tmps).run P Y.w = .ok (if h : vs.toArray.size = 1 then vs.toArray[0] else .tuple vs.toArray) Y.w := by
      unfold results
      simp only [Array.mapM_eq_mapM_toList, Sem.run_bind, Sem.run_map, Sem.run_pure, Result.andThen_ok]
      exact congrArg (fun r : Result (List Value) => (r.andThen fun a w' => Result.ok a.toArray w').andThen fun a w' => Result.ok (if h : a.size = 1 then a[0] else Value.tuple a) w') hrun
    have hX : Ext X Z := hext.trans hext2
    have hreps' : ∀ (j : Nat) sv v, l'[j]? = some sv → vs[j]? = some v → RepV Z (.r j) sv v := fun j sv v h1 h2 => by
      have := hreps j sv v h1 h2
      rwa [Nat.zero_add] at this
    have fin := finish_leave (b := b) hX hrel2 hlen hreps' hr2
    obtain ⟨Y', hw', hX', hL⟩ := fin
    have hw' := hw'.trans hw
    rcases he with rfl | rfl
    · exact ⟨hrel.defers, _, hrun2, Y', hw', hX', hL⟩
    · exact ⟨hrel.defers, _, hrun2, Y', hw', hX', hL⟩
end Go.Ref

/- What an argument reads as, as typed pure values. -/
set_option linter.unusedVariables false
set_option linter.unusedSimpArgs false
namespace Go.Ref
open Go
variable {P : Program} {E : Env}

/-- What any input's values are. -/
def Wf : (t : Ty) → El t → Prop
  | .bool, _ => True
  | .int k, n => (Lit.int k n).wf = true
  | .str, s => s.size ≤ maxLen
  | .sl _ t, xs => List.length xs ≤ maxLen ∧ ∀ x ∈ (xs : List (El t)), Wf t x
  | .arr n t, xs => List.length xs = n ∧ ∀ x ∈ (xs : List (El t)), Wf t x
  | .unit, _ => True
  | .pair a b, x => Wf a x.1 ∧ Wf b x.2
theorem cellsOf_eq (hE : EnvOk P E) {T : TypeId} {t : Ty} (ht : E.ty T = some t) : P.cellsOf T = t.cells := by
  obtain ⟨i, h1, h2, _⟩ := (hE.ty T t ht).info
  simp [Program.cellsOf, h1, h2]
/-- No slice's element is of size none. -/
def Ty.solid : Ty → Bool
  | .sl _ t => !(Nat.beq t.cells 0) && t.solid
  | .arr _ t => t.solid
  | .pair a b => a.solid && b.solid
  | _ => true
def openCfg (w : World) (β : Nat → Option Nat) : Cfg := ⟨w, fun _ => .all, β⟩
theorem open_sees {w : World} {β : Nat → Option Nat} {a : Addr} {v : Value} (h : w.cell? a = some v) : (openCfg w β).sees a v := ⟨World.cell?_spot h, h, trivial⟩
theorem choose_list {α : Type} {n : Nat} {p : Nat → α → Prop} (h : ∀ i, i < n → ∃ x, p i x) : ∃ xs : List α, xs.length = n ∧ ∀ (i : Nat) x, xs[i]? = some x → p i x := by
  induction n with
  | zero => exact ⟨[], rfl, fun i x hi => by simp at hi⟩
  | succ n ih =>
    obtain ⟨xs, h1, h2⟩ := ih fun i hi => h i (by omega)
    obtain ⟨y, hy⟩ := h n (by omega)
    refine ⟨xs ++ [y], by simp [h1], fun i x hi => ?_⟩
    rw [List.getElem?_append] at hi
    split at hi
    · exact h2 i x hi
    · rename_i hlt
      have hi2 : i - xs.length = 0 := by
        have := (List.getElem?_eq_some_iff.1 hi).1
        simp at this
        omega
      rw [hi2] at hi
      simp only [List.getElem?_cons_zero, Option.some.injEq] at hi
      subst hi
      have : i = n := by omega
      subst this
      exact hy
section
variable {H : Type} {enc : TypeId × Value → H} {w : World} {base : Nat} {spare : Nat → Bool} {held : Bool} {β : Nat → Option Nat}
theorem open_el (hE : EnvOk P E) : ∀ t : Ty,
    (∀ (T : TypeId) (fuel : Nat) (cs : List Value) (x : DataW H × List MemPlace), E.ty T = some t → t.solid = true → DataW.trod enc P w base spare held fuel T cs = some x → ∃ y : El t, Rep (openCfg w β) t y cs ∧ Wf t y) ∧
    (∀ (fl : List Field) (off fuel : Nat) (cs : List Value), FldFit E fl t off → t.solid = true → off + t.cells ≤ cs.length → (∀ f ∈ fl, ∃ x, DataW.trod enc P w base spare held fuel f.type ((cs.drop f.offset).take (P.cellsOf f.type)) = some x) →
      ∃ y : El t, Rep (openCfg w β) t y ((cs.drop off).take t.cells) ∧ Wf t y) := by
  intro t
  have noFld : ∀ {t : Ty}, t.isPair = false → t ≠ .unit → ∀ (fl : List Field) (off : Nat), ¬ FldFit E fl t off := by
    intro t h1 h2 fl off h
    cases t <;> cases fl <;> simp_all [FldFit, Ty.isPair]
  induction t with
  | bool =>
    refine ⟨fun T fuel cs x hT hso h => ?_, fun fl off fuel cs hf => absurd hf (noFld rfl (by simp) fl off)⟩
    have hu := (hE.ty T _ hT).und
    cases fuel with
    | zero => simp [DataW.trod] at h
    | succ m =>
      unfold DataW.trod at h
      rw [hu] at h
      split at h <;> try (first | cases h; done | (simp_all; done))
      rename_i b _
      exact ⟨b, rfl, trivial⟩
  | int k =>
    refine ⟨fun T fuel cs x hT hso h => ?_, fun fl off fuel cs hf => absurd hf (noFld rfl (by simp) fl off)⟩
    have hu := (hE.ty T _ hT).und
    cases fuel with
    | zero => simp [DataW.trod] at h
    | succ m =>
      unfold DataW.trod at h
      rw [hu] at h
      split at h <;> simp_all
      rename_i k1 k2 n hk
      subst hk
      exact ⟨n, rfl, h.1.2⟩
  | str =>
    refine ⟨fun T fuel cs x hT hso h => ?_, fun fl off fuel cs hf => absurd hf (noFld rfl (by simp) fl off)⟩
    have hu := (hE.ty T _ hT).und
    cases fuel with
    | zero => simp [DataW.trod] at h
    | succ m =>
      unfold DataW.trod at h
      rw [hu] at h
      split at h <;> simp_all
      rename_i s
      exact ⟨s, rfl, h.1⟩
  | sl e t ih =>
    refine ⟨fun T fuel cs x hT hso h => ?_, fun fl off fuel cs hf => absurd hf (noFld rfl (by simp) fl off)⟩
    obtain ⟨hu, he⟩ := (hE.ty T _ hT).und
    have hc := cellsOf_eq hE he
    rcases Go.Deep.open_slice hu h with ⟨rfl, _⟩ | ⟨a, len, cap, m, n, D, Pl, rfl, hb, hl, hm, hmm, _, hel⟩
    · exact ⟨[], ⟨none, 0, rfl, Nat.le_refl _, fun j x hj => by simp at hj⟩, by simp [maxLen], fun x hx => by cases hx⟩
    · have hlm : len ≤ m := by rw [hmm]; split <;> omega
      have hk : 0 < t.cells ∧ t.solid = true := by
        simp only [Ty.solid, Bool.and_eq_true, Bool.not_eq_true'] at hso
        refine ⟨?_, hso.2⟩
        rcases Nat.eq_zero_or_pos t.cells with h0 | h0
        · rw [h0] at hso; simp at hso
        · exact h0
      obtain ⟨ys, h1, h2⟩ := choose_list (n := len) (p := fun i (y : El t) => ∃ cs', w.cells? base (a.add (i * t.cells)) t.cells = some cs' ∧ Rep (openCfg w β) t y cs' ∧ Wf t y) (fun i hi => by
        obtain ⟨cs', g1, g2⟩ := hel i (by omega)
        rw [hc] at g1
        obtain ⟨y, k1, k2⟩ := ih.1 e n cs' _ he hk.2 g2
        exact ⟨y, cs', g1, k1, k2⟩)
      refine ⟨ys, Rep.slmk h1 hl (fun j y hj => ?_), by show ys.length ≤ _; omega, fun y hy => ?_⟩
      · obtain ⟨cs', g1, g2, g3⟩ := h2 j y hj
        obtain ⟨_, hlen, hcell⟩ := World.cells?_some g1
        have hj0 := (List.getElem?_eq_some_iff.1 hj).1
        obtain ⟨c0, e1, _⟩ := h2 0 _ (List.getElem?_eq_getElem (by omega))
        obtain ⟨_, hlen0, hcell0⟩ := World.cells?_some e1
        have hspot : a.spot = none := by
          have := hcell0 0 (by omega)
          rw [List.getElem?_eq_getElem (by omega)] at this
          have h3 := World.cell?_spot this
          simpa [Addr.add] using h3
        refine ⟨a, cs', rfl, hspot, g2, fun i v hi => open_sees ?_⟩
        have hil := (List.getElem?_eq_some_iff.1 hi).1
        have := hcell i (by omega)
        rw [add_add a hspot, hi] at this
        exact this
      · obtain ⟨i, hi⟩ := List.mem_iff_getElem?.1 hy
        obtain ⟨cs', _, _, g3⟩ := h2 i y hi
        exact g3
  | arr n t ih =>
    refine ⟨fun T fuel cs x hT hso h => ?_, fun fl off fuel cs hf => absurd hf (noFld rfl (by simp) fl off)⟩
    obtain ⟨e, hu, he⟩ := (hE.ty T _ hT).und
    have hc := cellsOf_eq hE he
    have hcT := cellsOf_eq hE hT
    obtain ⟨xs, m, rfl, _, hl, hxl, hel⟩ := DataW.trod_array hu h
    obtain ⟨ys, h1, h2⟩ := choose_list (n := n) (p := fun i (y : El t) => Rep (openCfg w β) t y ((cs.drop (i * t.cells)).take t.cells) ∧ Wf t y) (fun i hi => by
      have g := hel i hi
      rw [hc, List.getElem?_eq_getElem (by omega)] at g
      exact ih.1 e m _ _ he hso g)
    refine ⟨ys, ⟨h1, by rw [hl, hcT]; rfl, fun j y hj => (h2 j y hj).1⟩, h1, fun y hy => ?_⟩
    obtain ⟨i, hi⟩ := List.mem_iff_getElem?.1 hy
    exact (h2 i y hi).2
  | unit =>
    refine ⟨fun T fuel cs x hT hso h => ?_, fun fl off fuel cs hf hso hle hall => ⟨(), by simp [Ty.cells, Rep], trivial⟩⟩
    obtain ⟨fs, hu, hfit, _⟩ := (hE.ty T _ hT).und
    have hcT := cellsOf_eq hE hT
    obtain ⟨xs, m, rfl, _, hl, _⟩ := DataW.trod_struct hu h
    rw [hcT] at hl
    refine ⟨(), ?_, trivial⟩
    exact List.eq_nil_of_length_eq_zero hl
  | pair ta tb iha ihb =>
    have step : ∀ (fl : List Field) (off fuel : Nat) (cs : List Value), FldFit E fl (.pair ta tb) off → (Ty.pair ta tb).solid = true → off + (Ty.pair ta tb).cells ≤ cs.length → (∀ f ∈ fl, ∃ x, DataW.trod enc P w base spare held fuel f.type ((cs.drop f.offset).take (P.cellsOf f.type)) = some x) →
        ∃ y : El (.pair ta tb), Rep (openCfg w β) (.pair ta tb) y ((cs.drop off).take (Ty.pair ta tb).cells) ∧ Wf (.pair ta tb) y := by
      intro fl off fuel cs hf hso hle hall
      cases fl with
      | nil => simp [FldFit] at hf
      | cons f fl =>
        obtain ⟨f1, f2, f3, f4⟩ := hf
        simp only [Ty.solid, Bool.and_eq_true] at hso
        simp only [Ty.cells] at hle
        obtain ⟨x, hx⟩ := hall f (by simp)
        rw [cellsOf_eq hE f2, f1] at hx
        obtain ⟨y1, r1, w1⟩ := iha.1 f.type fuel _ x f2 hso.1 hx
        obtain ⟨y2, r2, w2⟩ := ihb.2 fl (off + ta.cells) fuel cs f4 hso.2 (by omega) (fun g hg => hall g (List.mem_cons_of_mem _ hg))
        refine ⟨(y1, y2), ⟨_, _, ?_, r1, r2⟩, w1, w2⟩
        simp only [Ty.cells]
        rw [← List.drop_drop]
        exact List.take_add
    refine ⟨fun T fuel cs x hT hso h => ?_, step⟩
    obtain ⟨fs, hu, hfit, _⟩ := (hE.ty T _ hT).und
    have hcT := cellsOf_eq hE hT
    obtain ⟨xs, m, rfl, _, hl, hxl, hel⟩ := DataW.trod_struct hu h
    rw [hcT] at hl
    obtain ⟨y, r, wf⟩ := step fs.toList 0 m cs hfit hso (by omega) (fun f hf => by
      obtain ⟨i, hi⟩ := List.mem_iff_getElem?.1 hf
      have hi' : fs[i]? = some f := by simpa using hi
      have := hel i f hi'
      have hlt := (List.getElem?_eq_some_iff.1 hi).1
      rw [List.getElem?_eq_getElem (by simp at hlt; omega)] at this
      exact ⟨_, this⟩)
    refine ⟨y, ?_, wf⟩
    rw [List.drop_zero, ← hl, List.take_length] at r
    exact r
end
end Go.Ref

/- A program's types by a table: a check that the kernel can run. -/
set_option linter.unusedVariables false
set_option linter.unusedSimpArgs false
namespace Go.Ref
open Go
variable {P : Program} {E : Env}

def cellEq : Value → Value → Bool
  | .bool a, .bool b => a == b
  | .int k a, .int j b => decide (k = j) && decide (a = b)
  | .string a, .string b => Nat.beq a.size 0 && Nat.beq b.size 0
  | .slice none 0 0, .slice none 0 0 => true
  | _, _ => false
theorem empty_bytes {a : ByteArray} (h : a.size = 0) : a = ⟨#[]⟩ := by
  cases a with
  | mk d =>
    have : d.size = 0 := h
    have := Array.eq_empty_of_size_eq_zero this
    rw [this]
theorem cellEq_eq {a b : Value} (h : cellEq a b = true) : a = b := by
  unfold cellEq at h
  split at h
  · simp at h; rw [h]
  · simp at h; rw [h.1, h.2]
  · simp only [Bool.and_eq_true] at h
    rw [empty_bytes (Nat.eq_of_beq_eq_true h.1), empty_bytes (Nat.eq_of_beq_eq_true h.2)]
  · rfl
  · cases h
def cellsEq : List Value → List Value → Bool
  | [], [] => true
  | a :: r, b :: q => cellEq a b && cellsEq r q
  | _, _ => false
theorem cellsEq_eq : ∀ {a b : List Value}, cellsEq a b = true → a = b
  | [], [], _ => rfl
  | a :: r, b :: q, h => by
    simp only [cellsEq, Bool.and_eq_true] at h
    rw [cellEq_eq h.1, cellsEq_eq h.2]
def zeroOk (t : Ty) (v : Value) : Bool :=
  match v with
  | .agg cs => t.agg && cellsEq cs.toList (zcells t)
  | v => !t.agg && cellsEq [v] (zcells t)
theorem zeroOk_eq {t : Ty} {v : Value} (h : zeroOk t v = true) : v = mkv t (zcells t) := by
  unfold zeroOk at h
  split at h
  · simp only [Bool.and_eq_true] at h
    rw [mkv_agg h.1, ← cellsEq_eq h.2]
  · simp only [Bool.and_eq_true, Bool.not_eq_true'] at h
    rw [← cellsEq_eq h.2, mkv_one h.1]
def fldB (E : Env) : List Field → Ty → Nat → Bool
  | [], .unit, _ => true
  | f :: r, .pair a b, off => Nat.beq f.offset off && ((match E.ty f.type with
    | some t => t.eqb a
    | none => false) && (!(f.name == "_") && fldB E r b (off + a.cells)))
  | _, _, _ => false
theorem fldB_fit : ∀ {fl : List Field} {t : Ty} {off : Nat}, fldB E fl t off = true → FldFit E fl t off
  | [], t, off, h => by cases t <;> simp_all [fldB, FldFit]
  | f :: r, t, off, h => by
    cases t <;> simp only [fldB, Bool.and_eq_true] at h <;> try (cases h; done)
    obtain ⟨h1, h2, h3, h4⟩ := h
    refine ⟨Nat.eq_of_beq_eq_true h1, ?_, ?_, fldB_fit h4⟩
    · cases hf : E.ty f.type with
      | none => rw [hf] at h2; cases h2
      | some u => rw [hf] at h2; rw [Ty.eqb_eq h2]
    · simpa using h3
def tyIs (E : Env) (T : TypeId) (t : Ty) : Bool :=
  match E.ty T with
  | some u => u.eqb t
  | none => false
theorem tyIs_eq {T : TypeId} {t : Ty} (h : tyIs E T t = true) : E.ty T = some t := by
  unfold tyIs at h
  split at h
  · rename_i u hu; rw [hu, Ty.eqb_eq h]
  · cases h
def undB (P : Program) (E : Env) (T : TypeId) (t : Ty) : Bool :=
  match P.underlying T, t with
  | some .bool, .bool => true
  | some (.int k), .int j => decide (k = j)
  | some .string, .str => true
  | some (.slice e), .sl e' u => Nat.beq e e' && tyIs E e u
  | some (.array n e), .arr m u => Nat.beq n m && tyIs E e u
  | some (.struct fs), .unit => fldB E fs.toList .unit 0 && (!P.stoodInHeld T && !P.eqGuardType P.depth T)
  | some (.struct fs), .pair a b => fldB E fs.toList (.pair a b) 0 && (!P.stoodInHeld T && !P.eqGuardType P.depth T)
  | _, _ => false
theorem undB_fit {T : TypeId} {t : Ty} (h : undB P E T t = true) : UndFit P E T t := by
  unfold undB at h
  split at h
  · assumption
  · rename_i k j hu; rw [← of_decide_eq_true h]; exact hu
  · assumption
  · rename_i e e' u hu
    simp only [Bool.and_eq_true] at h
    have := Nat.eq_of_beq_eq_true h.1
    subst this
    exact ⟨hu, tyIs_eq h.2⟩
  · rename_i n e m u hu
    simp only [Bool.and_eq_true] at h
    have := Nat.eq_of_beq_eq_true h.1
    subst this
    exact ⟨e, hu, tyIs_eq h.2⟩
  · rename_i fs hu
    simp only [Bool.and_eq_true, Bool.not_eq_true'] at h
    exact ⟨fs, hu, fldB_fit h.1, h.2.1, h.2.2⟩
  · rename_i fs a b hu
    simp only [Bool.and_eq_true, Bool.not_eq_true'] at h
    exact ⟨fs, hu, fldB_fit h.1, h.2.1, h.2.2⟩
  · cases h
def infoB (P : Program) (E : Env) (T : TypeId) (t : Ty) : Bool :=
  match P.info? T with
  | some i => Nat.beq i.size t.cells && (Nat.beq i.bytes (E.bytes T) && match i.zero with
    | some v => zeroOk t v
    | none => false)
  | none => false
def fitB (P : Program) (E : Env) (T : TypeId) : Bool :=
  match E.ty T with
  | some t => infoB P E T t && undB P E T t
  | none => true
theorem fitB_fit {T : TypeId} {t : Ty} (h : fitB P E T = true) (ht : E.ty T = some t) : TyFits P E T t := by
  unfold fitB at h
  rw [ht] at h
  simp only [Bool.and_eq_true] at h
  refine ⟨?_, undB_fit h.2⟩
  have h1 := h.1
  unfold infoB at h1
  split at h1
  · rename_i i hi
    simp only [Bool.and_eq_true] at h1
    obtain ⟨g1, g2, g3⟩ := h1
    split at g3
    · rename_i v hv
      exact ⟨i, hi, Nat.eq_of_beq_eq_true g1, Nat.eq_of_beq_eq_true g2, by rw [hv, zeroOk_eq g3]⟩
    · cases g3
  · cases h1
def ptB (P : Program) (T : TypeId) : Bool :=
  match P.underlying T with
  | some (.pointer _) => true
  | _ => false
/-- A table of types, of sizes in bytes; which are pointers. -/
structure Tab where
  tys : List (Option Ty)
  bts : List Nat
  pts : List Bool
def Tab.env (t : Tab) (keep keepX : Nat → List Nat) (outs : List Nat) (ps : List Ty) : Env := ⟨fun T => t.tys.getD T none, fun T => t.bts.getD T 0, fun T => t.pts.getD T false, keep, keepX, outs, ps⟩
def Tab.env0 (t : Tab) : Env := t.env (fun _ => []) (fun _ => []) [] []
def Tab.ok (P : Program) (t : Tab) : Bool := (List.range t.tys.length).all (fitB P t.env0) && (List.range t.pts.length).all fun T => !t.pts.getD T false || ptB P T
theorem fits_any {E' : Env} (h1 : E.ty = E'.ty) (h2 : E.bytes = E'.bytes) {T : TypeId} {t : Ty} (h : TyFits P E T t) : TyFits P E' T t := by
  have hfit : ∀ (fl : List Field) (t : Ty) (off : Nat), FldFit E fl t off → FldFit E' fl t off := by
    intro fl
    induction fl with
    | nil => intro t off h; cases t <;> simp_all [FldFit]
    | cons f r ih =>
      intro t off h
      cases t <;> simp only [FldFit] at h ⊢ <;> try exact h
      exact ⟨h.1, by rw [← h1]; exact h.2.1, h.2.2.1, ih _ _ h.2.2.2⟩
  refine ⟨by rw [← h2]; exact h.info, ?_⟩
  have hu := h.und
  cases t with
  | bool => exact hu
  | int k => exact hu
  | str => exact hu
  | sl e u => exact ⟨hu.1, by rw [← h1]; exact hu.2⟩
  | arr n u => obtain ⟨e, g1, g2⟩ := hu; exact ⟨e, g1, by rw [← h1]; exact g2⟩
  | unit => obtain ⟨fs, g1, g2, g3⟩ := hu; exact ⟨fs, g1, hfit _ _ _ g2, g3⟩
  | pair a b => obtain ⟨fs, g1, g2, g3⟩ := hu; exact ⟨fs, g1, hfit _ _ _ g2, g3⟩
theorem Tab.env_ok {t : Tab} (h : t.ok P = true) (keep keepX : Nat → List Nat) (outs : List Nat) (ps : List Ty) : EnvOk P (t.env keep keepX outs ps) := by
  unfold Tab.ok at h
  simp only [Bool.and_eq_true] at h
  refine ⟨fun T u hT => ?_, fun T hT => ?_⟩
  · refine fits_any (E := t.env0) (E' := t.env keep keepX outs ps) rfl rfl (fitB_fit ?_ hT)
    refine List.all_eq_true.1 h.1 T (List.mem_range.2 ?_)
    have hT' : t.tys.getD T none = some u := hT
    rcases Nat.lt_or_ge T t.tys.length with h1 | h1
    · exact h1
    · rw [List.getD_eq_getElem?_getD, List.getElem?_eq_none h1] at hT'; cases hT'
  · have hT' : t.pts.getD T false = true := hT
    have hlt : T < t.pts.length := by
      rcases Nat.lt_or_ge T t.pts.length with h1 | h1
      · exact h1
      · rw [List.getD_eq_getElem?_getD, List.getElem?_eq_none h1] at hT'; cases hT'
    have := List.all_eq_true.1 h.2 T (List.mem_range.2 hlt)
    rw [hT'] at this
    simp only [Bool.not_true, Bool.false_or] at this
    unfold ptB at this
    split at this
    · rename_i e he; exact ⟨e, he⟩
    · cases this
end Go.Ref

/- The table of the functions, one laid upon the other; a law's row. -/
set_option linter.unusedVariables false
set_option linter.unusedSimpArgs false
namespace Go.Ref
open Go
variable {P : Program} {E : Env}

abbrev Pure := (R : Type) → List SV → Option Box → (List SV → Option Box → Option R) → Option R
def Pure.Nat (g : Pure) : Prop := ∀ (R S : Type) l b (F : List SV → Option Box → Option R) (G : List SV → Option Box → Option S) (K : S → Option R), (∀ r b, F r b = (G r b).bind K) → g R l b F = (g S l b G).bind K
def Funs.none : Funs := fun _ _ _ _ _ => .none
def Funs.add (C : Funs) (n : FuncId) (ps : List Ty) (g : Pure) : Funs := fun R f l b K => bif Nat.beq f n then g R (normA ps l) b K else C R f l b K
theorem none_nat : Funs.none.Nat := fun _ _ _ _ _ _ _ _ _ => rfl
theorem none_owes (f : FuncId) : Owes P Funs.none f := fun _ _ _ _ h => by cases h
theorem add_nat {C : Funs} {n : FuncId} {ps : List Ty} {g : Pure} (hC : C.Nat) (hg : g.Nat) : (C.add n ps g).Nat := fun R S f l b F G K h => by
  unfold Funs.add
  cases Nat.beq f n with
  | false => exact hC R S f l b F G K h
  | true => exact hg R S _ b F G K h
theorem add_owes (hE : EnvOk P E) (hm : P.follows .mixedOrders = true) {C : Funs} (hC : C.Nat) (h0 : ∀ f, Owes P C f) {n : FuncId} {ps : List Ty} {g : Pure} {fn : Func} {code : Code} (hfn : P.funcs[n]? = some fn) (hname : (fn.name == "runtime.NumGoroutine") = false) (hbody : fn.body = some code)
    (h : ∀ (l : List SV) (b : Option Box) (r : List SV) (b' : Option Box), g (List SV × Option Box) (normA ps l) b (fun r b => some (r, b)) = some (r, b') → ∃ k, evFn E (C (List SV × Option Box)) k fn code l b (fun r b => some (r, b)) = some (r, b')) : ∀ f, Owes P (C.add n ps g) f := by
  intro f
  by_cases e : f = n
  · subst e
    refine fn_owes hE hm hC h0 hfn hname hbody fun l b r b' hc => h l b r b' ?_
    unfold Funs.add at hc
    have : Nat.beq f f = true := by simp
    rw [this] at hc
    exact hc
  · intro l b r b' hc
    unfold Funs.add at hc
    have : Nat.beq f n = false := by
      cases hh : Nat.beq f n with
      | false => rfl
      | true => exact absurd (Nat.eq_of_beq_eq_true hh) e
    rw [this] at hc
    exact h0 f l b r b' hc

/-! ### A part of a code -/
def sub : List Nat → Code → Code
  | [], c => c
  | 0 :: p, .seq a _ => sub p a
  | _ :: p, .seq _ b => sub p b
  | 0 :: p, .cond _ a _ => sub p a
  | _ :: p, .cond _ _ b => sub p b
  | _ :: p, .block _ b => sub p b
  | _ :: p, .loop b => sub p b
  | _, c => c

/-! ### What follows a loop -/
section
variable {R : Type}
def kBlock (id : Nat) (K : Ex → State → Option R) : Ex → State → Option R := fun e s => match e with
  | .exit j => bif Nat.beq j id then K .normal s else K (.exit j) s
  | e => K e s
def kSeq (E : Env) (C : FuncId → Fun' R) (k : Nat) (b : Code) (K : Ex → State → Option R) : Ex → State → Option R := fun e s => match e with
  | .normal => ev E C k b s K
  | e => K e s
def kFin (E : Env) (rs : List ResultVar) (bx : Option Box) (K : List SV → Option Box → Option R) : Ex → State → Option R := fun e s => match e with
  | .exit _ => none
  | _ => match resOf E s rs with
    | some (l, s') => finish s' bx l K
    | none => none
end

/-! ### Arguments by their number -/
section
variable {R : Type}
def args0 (l : List SV) (K : Option R) : Option R :=
  match l with
  | [] => K
  | _ => none
def args1 (t : Ty) (l : List SV) (K : El t → Option R) : Option R :=
  match l with
  | [a] => a.el t K
  | _ => none
def args2 (t u : Ty) (l : List SV) (K : El t → El u → Option R) : Option R :=
  match l with
  | [a, b] => a.el t fun x => b.el u fun y => K x y
  | _ => none
def args3 (t u v : Ty) (l : List SV) (K : El t → El u → El v → Option R) : Option R :=
  match l with
  | [a, b, c] => a.el t fun x => b.el u fun y => c.el v fun z => K x y z
  | _ => none
def args4 (t u v w : Ty) (l : List SV) (K : El t → El u → El v → El w → Option R) : Option R :=
  match l with
  | [a, b, c, d] => a.el t fun x => b.el u fun y => c.el v fun z => d.el w fun z' => K x y z z'
  | _ => none
end
theorem el_norm {R : Type} {t : Ty} {v : SV} {r : List Ty} {q : List SV} {K : El t → Option R} {z : R} {v' : SV} {q' : List SV} (hn : normA (t :: r) (v :: q) = v' :: q') (h : v'.el t K = some z) : ∃ y, v' = .dat t y [] ∧ q' = normA r q ∧ K y = some z := by
  have key : v' = v.shut ∧ q' = normA r q ∨ (∃ e u, t = .sl e u ∧ v' = .dat (.sl e u) ([] : List (El u)) [] ∧ q' = normA r q) := by
    cases t <;> cases v <;> simp only [normA, List.cons.injEq] at hn <;> first | exact .inl ⟨hn.1.symm, hn.2.symm⟩ | exact .inr ⟨_, _, rfl, hn.1.symm, hn.2.symm⟩
  rcases key with ⟨rfl, rfl⟩ | ⟨e, u, rfl, rfl, rfl⟩
  · cases v with
    | dat t' x own =>
      simp only [SV.shut, SV.el] at h
      split at h
      · rename_i heq
        have := Ty.eqb_eq heq
        subst this
        exact ⟨x, rfl, rfl, h⟩
      · cases h
    | nilS => cases t <;> first | (simp [SV.shut, SV.el] at h; done) | (simp [normA, SV.shut] at hn; done)
    | _ => simp [SV.shut, SV.el] at h
  · simp only [SV.el, Ty.eqb_refl, dite_true] at h
    exact ⟨[], rfl, rfl, h⟩

/-! ### A row -/
theorem open_val (hE : EnvOk P E) {H : Type} {enc : TypeId × Value → H} {w : World} {spare : Nat → Bool} {held : Bool} {β : Nat → Option Nat} {base b : Nat} {T : TypeId} {t : Ty} {v : Value} {d : DataW H} {ps : List MemPlace} (hT : E.ty T = some t) (hso : t.solid = true)
    (hv : Value.okWide P w .any b T v) (hd : DataW.Trod enc P w base spare held T v d ps) : ∃ y : El t, Wf t y ∧ ∀ q, RepV (openCfg w β) q (.dat t y []) v := by
  obtain ⟨fuel, hd⟩ := hd
  obtain ⟨y, r, wf⟩ := (open_el (β := β) hE t).1 T fuel _ _ hT hso hd
  refine ⟨y, wf, fun q => ⟨_, r, ?_, ownp_nil⟩⟩
  have hu := (hE.ty T t hT).und
  have hl := r.len
  cases ht : t.agg with
  | true =>
    rw [mkv_agg ht]
    have : ∃ cs, v = .agg cs := by
      unfold Value.okWide at hv
      cases t with
      | arr n t => obtain ⟨e, h1, _⟩ := hu; rw [h1] at hv; obtain ⟨cs, h, _⟩ := hv; exact ⟨cs, h⟩
      | unit => obtain ⟨fs, h1, _⟩ := hu; rw [h1] at hv; obtain ⟨cs, h, _⟩ := hv; exact ⟨cs, h⟩
      | pair a b => obtain ⟨fs, h1, _⟩ := hu; rw [h1] at hv; obtain ⟨cs, h, _⟩ := hv; exact ⟨cs, h⟩
      | _ => simp [Ty.agg] at ht
    obtain ⟨cs, rfl⟩ := this
    rfl
  | false =>
    have hnot : ∀ cs, v ≠ .agg cs := by
      rintro cs rfl
      unfold Value.okWide at hv
      cases t with
      | bool => have hu : P.underlying T = some .bool := hu; rw [hu] at hv; unfold Cell.okWide at hv; rw [hu] at hv; unfold Cell.ok at hv; rw [hu] at hv; exact hv
      | int k => have hu : P.underlying T = some (.int k) := hu; rw [hu] at hv; unfold Cell.okWide at hv; rw [hu] at hv; unfold Cell.ok at hv; rw [hu] at hv; exact hv
      | str => have hu : P.underlying T = some .string := hu; rw [hu] at hv; unfold Cell.okWide at hv; rw [hu] at hv; unfold Cell.ok at hv; rw [hu] at hv; exact hv
      | sl e t => have hu : P.underlying T = some (.slice e) := hu.1; rw [hu] at hv; unfold Cell.okWide at hv; rw [hu] at hv; unfold Cell.ok at hv; rw [hu] at hv; exact hv
      | _ => simp [Ty.agg] at ht
    have hc : v.cells.toList = [v] := by
      cases v <;> first | rfl | exact absurd rfl (hnot _)
    rw [hc, mkv_one ht]
/-- What was there before a call is as it was. -/
theorem still_heap {w : World} {β : Nat → Option Nat} {Y : Cfg} (h : Ext (openCfg w β) Y) : ∀ g, g < w.heap.size → Y.w.heap[g]? = w.heap[g]? := fun g hg => (h.still g hg trivial).2
end Go.Ref

/- Loops over a slice, in plain Lean. -/
set_option linter.unusedVariables false
namespace Go.Ref
open Go
theorem wrap64 {x : Int} (h1 : -9223372036854775808 ≤ x) (h2 : x ≤ 9223372036854775807) : IntKind.i64.wrap x = x := by
  simp [IntKind.wrap, IntKind.signed, IntKind.bits]
  omega
theorem within_at {R : Type} {j n : Nat} {x : Option R} (h : j < n) : within (j : Int) n x = x := by
  unfold within
  rw [decide_eq_true (by omega : (0 : Int) ≤ j), decide_eq_true (by omega : (j : Int) < n)]
  rfl
/-- A loop over all of a slice that never leaves early. -/
theorem range_fold {R α σ : Type} (d : α) (xs : List α) (hlen : xs.length ≤ maxLen) (f : σ → α → σ) (X : σ → Option R) (L : Nat → Int → σ → Option R)
    (step : ∀ k i s, L (k + 1) i s = bif decide (i < (xs.length : Int)) then within i xs.length (L k (IntKind.i64.wrap (i + 1)) (f s (xs.getD i.toNat d))) else X s) :
    ∀ (m j : Nat) (s : σ) (k : Nat), j + m = xs.length → m < k → L k j s = X ((xs.drop j).foldl f s)
  | 0, j, s, k, hj, hk => by
    obtain ⟨k, rfl⟩ : ∃ k', k = k' + 1 := ⟨k - 1, by omega⟩
    rw [step, decide_eq_false (by omega), List.drop_eq_nil_of_le (by omega)]
    rfl
  | m + 1, j, s, k, hj, hk => by
    obtain ⟨k, rfl⟩ : ∃ k', k = k' + 1 := ⟨k - 1, by omega⟩
    have hlt : j < xs.length := by omega
    simp only [maxLen] at hlen
    rw [step, decide_eq_true (by omega), cond_true, within_at hlt, wrap64 (by omega) (by omega)]
    have := range_fold d xs (by simp only [maxLen]; omega) f X L step m (j + 1) (f s (xs.getD j d)) k (by omega) (by omega)
    rw [show ((j : Int) + 1) = ((j + 1 : Nat) : Int) by omega]
    rw [show ((j : Int)).toNat = j by omega, this, List.drop_eq_getElem_cons hlt, List.foldl_cons]
    congr 2
    rw [List.getD_eq_getElem?_getD, List.getElem?_eq_getElem hlt]
    rfl
end Go.Ref

/- From a law's evaluation to its calls. -/
set_option linter.unusedVariables false
set_option linter.unusedSimpArgs false
namespace Go.Ref
open Go
variable {P : Program} {E : Env}

def EnterL (X : Cfg) : List SV → List Value → Prop
  | [], [] => True
  | s :: l, v :: vs => (∀ q, RepV X q s v) ∧ (∀ id t p, s ≠ .ptr id t p) ∧ EnterL X l vs
  | _, _ => False
theorem enterL_get {X : Cfg} : ∀ {l : List SV} {vs : List Value}, EnterL X l vs → vs.length = l.length ∧ ∀ (i : Nat) s v, l[i]? = some s → vs[i]? = some v → (∀ q, RepV X q s v) ∧ ∀ id t p, s ≠ .ptr id t p
  | [], [], _ => ⟨rfl, fun i s v h => by simp at h⟩
  | s :: l, v :: vs, h => by
    obtain ⟨h1, h2, h3⟩ := h
    obtain ⟨g1, g2⟩ := enterL_get h3
    refine ⟨by simp [g1], fun i s' v' hs hv => ?_⟩
    cases i with
    | zero =>
      simp only [List.getElem?_cons_zero, Option.some.injEq] at hs hv
      subst hs hv
      exact ⟨h1, h2⟩
    | succ i =>
      simp only [List.getElem?_cons_succ] at hs hv
      exact g2 i s' v' hs hv
theorem enter_of {X : Cfg} {l : List SV} {args : Array Value} (h : EnterL X l args.toList) : Enter X l none args := by
  obtain ⟨h1, h2⟩ := enterL_get h
  refine ⟨by simpa using h1, fun i sv v hs hv => (h2 i sv v hs (by simpa using hv)).1 _, fun id t p hm => ?_, fun B hB => by cases hB⟩
  obtain ⟨i, hi⟩ := List.mem_iff_getElem?.1 hm
  have hlt := (List.getElem?_eq_some_iff.1 hi).1
  have hlt2 : i < args.toList.length := by omega
  exact absurd rfl ((h2 i _ _ hi (List.getElem?_eq_getElem hlt2)).2 id t p)
/-- A law that comes to true, whatever its arguments: its call is answered so, and all that was there is as it was. -/
theorem row_calls {C : Funs} {f : FuncId} (ho : Owes P C f) {l : List SV} {args : Array Value} {W : World} {b : Bool} (hc : C (List SV × Option Box) f l none (fun r b => some (r, b)) = some ([.dat .bool b []], none)) (hen : EnterL (openCfg W fun _ => none) l args.toList) :
    Calls P f args W fun e w' => e = .returned (.bool b) ∧ RowKit.Below W.heap.size W w' := by
  refine ((ho l none _ _ hc).2 (openCfg W fun _ => none) args (enter_of hen)).mono fun e w' he => ?_
  cases e with
  | returned v =>
    obtain ⟨Y, rfl, hext, r0, hrep, _, _⟩ := he
    have hrep : RepV { Y with β := fun _ => some r0 } (.r 0) (.dat .bool b []) v := hrep
    refine ⟨by rw [repv_bool_inv hrep], hext.os, hext.tape, hext.output, hext.size, fun k hk => still_heap hext k hk⟩
  | panicked c => exact he.elim
  | outgrown => exact he.elim
end Go.Ref

/- What the printed functions lean on: continuations, arguments, their naturality. -/
set_option linter.unusedVariables false
set_option linter.unusedSimpArgs false
namespace Go.Ref
open Go
variable {P : Program} {E : Env}

/-- A text by its bytes. -/
def bs (l : List Nat) : ByteArray := ⟨(l.map UInt8.ofNat).toArray⟩
/-- As many rounds as any loop may have. -/
@[irreducible] def FUEL : Nat := 18446744073709551616
section
variable {R S : Type}
def kLoop (body : State → (Ex → State → Option R) → Option R) (l lx : List Nat) (k : Nat) (K : Ex → State → Option R) : Ex → State → Option R := fun e s => match e with
  | .normal => forget l s fun s => loopR body l lx k s K
  | e => forget lx s fun s => K e s
def argB (t : Ty) (own : List (List Nat)) (l : List SV) (b : Option Box) (K : El t → List SV → Option R) : Option R :=
  match l, b with
  | .ptr 0 u [] :: r, some B => if h : B.t.eqb t = true then if (u.eqb t && B.own == own) = true then K (Ty.cast h B.x) r else none else none
  | _, _ => none
def noBox (b : Option Box) (K : Option R) : Option R :=
  match b with
  | none => K
  | some _ => none
theorem noBox_nat {b : Option Box} {F : Option R} {G : Option S} {K : S → Option R} (h : F = G.bind K) : noBox b F = (noBox b G).bind K := by
  cases b
  · exact h
  · rfl
theorem noBox_some {b : Option Box} {F : Option R} {z : R} (h : noBox b F = some z) : b = none ∧ F = some z := by
  cases b
  · exact ⟨rfl, h⟩
  · cases h
def args5 (t u v w x : Ty) (l : List SV) (K : El t → El u → El v → El w → El x → Option R) : Option R :=
  match l with
  | [a, b, c, d, e] => a.el t fun x => b.el u fun y => c.el v fun z => d.el w fun z' => e.el _ fun z'' => K x y z z' z''
  | _ => none
theorem cond_bind (c : Bool) (x y : Option S) (F : S → Option R) : (bif c then x else y).bind F = bif c then x.bind F else y.bind F := by cases c <;> rfl
theorem within_bind (i : Int) (n : Nat) (x : Option S) (F : S → Option R) : (within i n x).bind F = within i n (x.bind F) := by
  unfold within; rw [cond_bind, cond_bind]; rfl
theorem none_bind (F : S → Option R) : (none : Option S).bind F = none := Eq.trans rfl rfl
theorem some_bind (x : S) (F : S → Option R) : (some x).bind F = F x := Eq.trans rfl rfl
theorem sum_bind {α β : Type} (f : α → Option S) (g : β → Option S) (e : α ⊕ β) (F : S → Option R) : (Sum.elim f g e).bind F = Sum.elim (fun x => (f x).bind F) (fun x => (g x).bind F) e := by cases e <;> rfl
theorem bind_bind {α : Type} (x : Option α) (f : α → Option S) (F : S → Option R) : (x.bind f).bind F = x.bind fun y => (f y).bind F := by cases x <;> rfl

theorem args0_nat {l : List SV} {F : Option R} {G : Option S} {K : S → Option R} (h : F = G.bind K) : args0 l F = (args0 l G).bind K := by
  unfold args0; split
  · exact h
  · rfl
theorem args1_nat {t : Ty} {l : List SV} {F : El t → Option R} {G : El t → Option S} {K : S → Option R} (h : ∀ x, F x = (G x).bind K) : args1 t l F = (args1 t l G).bind K := by
  unfold args1; split
  · exact el_nat h
  · rfl
theorem args2_nat {t u : Ty} {l : List SV} {F : El t → El u → Option R} {G : El t → El u → Option S} {K : S → Option R} (h : ∀ x y, F x y = (G x y).bind K) : args2 t u l F = (args2 t u l G).bind K := by
  unfold args2; split
  · exact el_nat fun x => el_nat fun y => h x y
  · rfl
theorem args3_nat {t u v : Ty} {l : List SV} {F : El t → El u → El v → Option R} {G : El t → El u → El v → Option S} {K : S → Option R} (h : ∀ x y z, F x y z = (G x y z).bind K) : args3 t u v l F = (args3 t u v l G).bind K := by
  unfold args3; split
  · exact el_nat fun x => el_nat fun y => el_nat fun z => h x y z
  · rfl
theorem args4_nat {t u v w : Ty} {l : List SV} {F : El t → El u → El v → El w → Option R} {G : El t → El u → El v → El w → Option S} {K : S → Option R} (h : ∀ x y z a, F x y z a = (G x y z a).bind K) : args4 t u v w l F = (args4 t u v w l G).bind K := by
  unfold args4; split
  · exact el_nat fun x => el_nat fun y => el_nat fun z => el_nat fun a => h x y z a
  · rfl
theorem args5_nat {t u v w o : Ty} {l : List SV} {F : El t → El u → El v → El w → El o → Option R} {G : El t → El u → El v → El w → El o → Option S} {K : S → Option R} (h : ∀ x y z a b, F x y z a b = (G x y z a b).bind K) : args5 t u v w o l F = (args5 t u v w o l G).bind K := by
  unfold args5; split
  · exact el_nat fun x => el_nat fun y => el_nat fun z => el_nat fun a => el_nat fun b => h x y z a b
  · rfl
theorem argB_nat {t : Ty} {own : List (List Nat)} {l : List SV} {b : Option Box} {F : El t → List SV → Option R} {G : El t → List SV → Option S} {K : S → Option R} (h : ∀ x r, F x r = (G x r).bind K) : argB t own l b F = (argB t own l b G).bind K := by
  unfold argB; split
  · split
    · split
      · exact h _ _
      · rfl
    · rfl
  · rfl
theorem bindr_nat {α : Type} {m : Option α} {F : α → Option R} {G : α → Option S} {K : S → Option R} (h : ∀ r, F r = (G r).bind K) : m.bind F = (m.bind G).bind K := by
  cases m with
  | none => rfl
  | some x => exact h x
theorem sum_nat {α β : Type} {f : α → Option R} {g : β → Option R} {f' : α → Option S} {g' : β → Option S} {K : S → Option R} {e : α ⊕ β} (h1 : ∀ x, f x = (f' x).bind K) (h2 : ∀ x, g x = (g' x).bind K) : Sum.elim f g e = (Sum.elim f' g' e).bind K := by
  cases e with
  | inl x => exact h1 x
  | inr x => exact h2 x
end

/-! ### The arguments that a printed function is called with -/
section
variable {R : Type}
theorem evFn_norm {C : FuncId → Fun' R} {k : Nat} {fn : Func} {code : Code} {l q : List SV} {b : Option Box} {K : List SV → Option Box → Option R} (h : normA E.ps l = q) (hq : normA E.ps q = q) (hl : q.length = l.length) : evFn E C k fn code l b K = evFn E C k fn code q b K := by
  unfold evFn
  simp only [h, hq, hl]
theorem norm_dats : ∀ {ts : List Ty} {q : List SV}, (∀ s ∈ q, s.shut = s ∧ s ≠ .nilS) → normA ts q = q
  | ts, [], _ => by cases ts <;> simp [normA]
  | [], q, _ => by simp [normA]
  | t :: r, v :: q, h => by
    have h1 := h v (by simp)
    have h2 := norm_dats (ts := r) (q := q) (fun s hs => h s (by simp [hs]))
    cases t <;> cases v <;> simp [normA, h2] <;> first | exact h1.1 | exact absurd rfl h1.2
theorem norm_nil {ts : List Ty} {l : List SV} (h : normA ts l = []) : l = [] := by
  have := normA_len ts l
  rw [h] at this
  exact List.length_eq_zero_iff.1 this.symm
theorem norm_cons {t : Ty} {r : List Ty} {l : List SV} {v' : SV} {q' : List SV} (h : normA (t :: r) l = v' :: q') : ∃ v q, l = v :: q := by
  cases l with
  | nil => simp [normA] at h
  | cons v q => exact ⟨v, q, rfl⟩
theorem el_head {t : Ty} {r : List Ty} {l : List SV} {a : SV} {q' : List SV} {K : El t → Option R} {z : R} (hn : normA (t :: r) l = a :: q') (h : a.el t K = some z) : ∃ y v q, a = .dat t y [] ∧ l = v :: q ∧ normA r q = q' ∧ K y = some z := by
  obtain ⟨v, q, rfl⟩ := norm_cons hn
  obtain ⟨y, h1, h2, h3⟩ := el_norm hn h
  exact ⟨y, v, q, h1, rfl, h2.symm, h3⟩
theorem same_args {l q : List SV} (hn : normA E.ps l = q) (hd : ∀ s ∈ q, s.shut = s ∧ s ≠ .nilS) {C : FuncId → Fun' R} {k : Nat} {fn : Func} {code : Code} {b : Option Box} {K : List SV → Option Box → Option R} : evFn E C k fn code l b K = evFn E C k fn code q b K :=
  evFn_norm hn (norm_dats hd) (by rw [← hn, normA_len])
theorem dat_ok {t : Ty} {x : El t} : (SV.dat t x []).shut = SV.dat t x [] ∧ SV.dat t x [] ≠ .nilS := ⟨rfl, by simp⟩
def Same (E : Env) (l q : List SV) : Prop := ∀ {R : Type} (C : FuncId → Fun' R) (k : Nat) (fn : Func) (code : Code) (b : Option Box) (K : List SV → Option Box → Option R), evFn E C k fn code l b K = evFn E C k fn code q b K
theorem own0 {l : List SV} {F : Option R} {z : R} (hps : E.ps = []) (h : args0 (normA [] l) F = some z) : F = some z ∧ Same E l [] := by
  unfold args0 at h
  split at h
  · rename_i hn
    have := norm_nil hn
    subst this
    exact ⟨h, fun C k fn code b K => rfl⟩
  · cases h
theorem own1 {t : Ty} {l : List SV} {F : El t → Option R} {z : R} (hps : E.ps = [t]) (h : args1 t (normA [t] l) F = some z) : ∃ x, F x = some z ∧ Same E l [.dat t x []] := by
  unfold args1 at h
  split at h
  · rename_i a hn
    obtain ⟨x, v, q, rfl, rfl, h1, h⟩ := el_head hn h
    refine ⟨x, h, fun C k fn code b K => same_args (by rw [hps]; exact hn) ?_⟩
    intro s hs
    simp only [List.mem_cons, List.not_mem_nil, or_false] at hs
    subst hs; exact dat_ok
  · cases h
theorem own2 {t u : Ty} {l : List SV} {F : El t → El u → Option R} {z : R} (hps : E.ps = [t, u]) (h : args2 t u (normA [t, u] l) F = some z) : ∃ x y, F x y = some z ∧ Same E l [.dat t x [], .dat u y []] := by
  unfold args2 at h
  split at h
  · rename_i a b hn
    obtain ⟨x, v, q, rfl, rfl, h1, h⟩ := el_head hn h
    obtain ⟨y, v', q', rfl, rfl, h2, h⟩ := el_head h1 h
    refine ⟨x, y, h, fun C k fn code b K => same_args (by rw [hps]; exact hn) ?_⟩
    intro s hs
    simp only [List.mem_cons, List.not_mem_nil, or_false] at hs
    rcases hs with rfl | rfl <;> exact dat_ok
  · cases h
theorem own3 {t u v : Ty} {l : List SV} {F : El t → El u → El v → Option R} {z : R} (hps : E.ps = [t, u, v]) (h : args3 t u v (normA [t, u, v] l) F = some z) : ∃ x y a, F x y a = some z ∧ Same E l [.dat t x [], .dat u y [], .dat v a []] := by
  unfold args3 at h
  split at h
  · rename_i a b c hn
    obtain ⟨x, v, q, rfl, rfl, h1, h⟩ := el_head hn h
    obtain ⟨y, v', q', rfl, rfl, h2, h⟩ := el_head h1 h
    obtain ⟨w, v', q', rfl, rfl, h3, h⟩ := el_head h2 h
    refine ⟨x, y, w, h, fun C k fn code b K => same_args (by rw [hps]; exact hn) ?_⟩
    intro s hs
    simp only [List.mem_cons, List.not_mem_nil, or_false] at hs
    rcases hs with rfl | rfl | rfl <;> exact dat_ok
  · cases h
theorem own4 {t u v w : Ty} {l : List SV} {F : El t → El u → El v → El w → Option R} {z : R} (hps : E.ps = [t, u, v, w]) (h : args4 t u v w (normA [t, u, v, w] l) F = some z) : ∃ x y a b, F x y a b = some z ∧ Same E l [.dat t x [], .dat u y [], .dat v a [], .dat w b []] := by
  unfold args4 at h
  split at h
  · rename_i a b c d hn
    obtain ⟨x, v, q, rfl, rfl, h1, h⟩ := el_head hn h
    obtain ⟨y, v', q', rfl, rfl, h2, h⟩ := el_head h1 h
    obtain ⟨w, v', q', rfl, rfl, h3, h⟩ := el_head h2 h
    obtain ⟨w', v', q', rfl, rfl, h4, h⟩ := el_head h3 h
    refine ⟨x, y, w, w', h, fun C k fn code b K => same_args (by rw [hps]; exact hn) ?_⟩
    intro s hs
    simp only [List.mem_cons, List.not_mem_nil, or_false] at hs
    rcases hs with rfl | rfl | rfl | rfl <;> exact dat_ok
  · cases h
theorem own5 {t u v w o : Ty} {l : List SV} {F : El t → El u → El v → El w → El o → Option R} {z : R} (hps : E.ps = [t, u, v, w, o]) (h : args5 t u v w o (normA [t, u, v, w, o] l) F = some z) : ∃ x y a b c, F x y a b c = some z ∧ Same E l [.dat t x [], .dat u y [], .dat v a [], .dat w b [], .dat o c []] := by
  unfold args5 at h
  split at h
  · rename_i a b c d e hn
    obtain ⟨x, v, q, rfl, rfl, h1, h⟩ := el_head hn h
    obtain ⟨y, v', q', rfl, rfl, h2, h⟩ := el_head h1 h
    obtain ⟨w, v', q', rfl, rfl, h3, h⟩ := el_head h2 h
    obtain ⟨w', v', q', rfl, rfl, h4, h⟩ := el_head h3 h
    obtain ⟨w2, v', q', rfl, rfl, h5, h⟩ := el_head h4 h
    refine ⟨x, y, w, w', w2, h, fun C k fn code b K => same_args (by rw [hps]; exact hn) ?_⟩
    intro s hs
    simp only [List.mem_cons, List.not_mem_nil, or_false] at hs
    rcases hs with rfl | rfl | rfl | rfl | rfl <;> exact dat_ok
  · cases h
/-- A pointer ahead of the other arguments. -/
theorem argB_some {t : Ty} {own : List (List Nat)} {l : List SV} {b : Option Box} {F : El t → List SV → Option R} {z : R} (h : argB t own l b F = some z) : ∃ x r, l = .ptr 0 t [] :: r ∧ b = some ⟨t, x, own⟩ ∧ F x r = some z := by
  unfold argB at h
  split at h
  · rename_i u r B
    split at h
    · rename_i hB
      split at h
      · rename_i hu
        simp only [Bool.and_eq_true, beq_iff_eq] at hu
        obtain ⟨h1, h2⟩ := hu
        obtain ⟨Bt, Bx, Bo⟩ := B
        have := Ty.eqb_eq hB
        have h3 := Ty.eqb_eq h1
        subst this
        subst h3
        subst h2
        exact ⟨Bx, r, rfl, rfl, h⟩
      · cases h
    · cases h
  · cases h
theorem ptr_head {ts : List Ty} {l : List SV} {t : Ty} {r : List SV} (h : normA (.unit :: ts) l = .ptr 0 t [] :: r) : ∃ q, l = .ptr 0 t [] :: q ∧ normA ts q = r := by
  obtain ⟨v, q, rfl⟩ := norm_cons h
  cases v <;> simp [normA, SV.shut] at h
  obtain ⟨⟨rfl, rfl, rfl⟩, h2⟩ := h
  exact ⟨q, rfl, h2⟩
theorem ptr_ok {t : Ty} : (SV.ptr 0 t []).shut = SV.ptr 0 t [] ∧ SV.ptr 0 t [] ≠ .nilS := ⟨rfl, by simp⟩
theorem ownB {t : Ty} {own : List (List Nat)} {ts : List Ty} {l : List SV} {b : Option Box} {F : El t → List SV → Option R} {z : R} (h : argB t own (normA (.unit :: ts) l) b F = some z) : ∃ x q, l = .ptr 0 t [] :: q ∧ b = some ⟨t, x, own⟩ ∧ F x (normA ts q) = some z := by
  obtain ⟨x, r, h1, h2, h3⟩ := argB_some h
  obtain ⟨q, rfl, hq⟩ := ptr_head h1
  exact ⟨x, q, rfl, h2, by rw [hq]; exact h3⟩
theorem Same.ptr {t : Ty} {ts : List Ty} {q q' : List SV} (hps : E.ps = .unit :: ts) (hn : normA ts q = q') (hd : ∀ s ∈ q', s.shut = s ∧ s ≠ .nilS) : Same E (.ptr 0 t [] :: q) (.ptr 0 t [] :: q') := fun C k fn code b K =>
  same_args (by rw [hps]; simp [normA, SV.shut, hn]) (fun s hs => by
    rcases List.mem_cons.1 hs with rfl | hs
    · exact ptr_ok
    · exact hd s hs)
theorem ownB0 {t : Ty} {q : List SV} {F : Option R} {z : R} (hps : E.ps = [.unit]) (h : args0 (normA [] q) F = some z) : F = some z ∧ Same E (.ptr 0 t [] :: q) [.ptr 0 t []] := by
  unfold args0 at h
  split at h
  · rename_i hn
    exact ⟨h, Same.ptr hps hn (by simp)⟩
  · cases h
theorem ownB1 {t u : Ty} {q : List SV} {F : El u → Option R} {z : R} (hps : E.ps = [.unit, u]) (h : args1 u (normA [u] q) F = some z) : ∃ x, F x = some z ∧ Same E (.ptr 0 t [] :: q) [.ptr 0 t [], .dat u x []] := by
  unfold args1 at h
  split at h
  · rename_i a hn
    obtain ⟨x, v, q, rfl, rfl, h1, h⟩ := el_head hn h
    refine ⟨x, h, Same.ptr hps hn ?_⟩
    intro s hs
    simp only [List.mem_cons, List.not_mem_nil, or_false] at hs
    subst hs; exact dat_ok
  · cases h
theorem ownB2 {t u v : Ty} {q : List SV} {F : El u → El v → Option R} {z : R} (hps : E.ps = [.unit, u, v]) (h : args2 u v (normA [u, v] q) F = some z) : ∃ x y, F x y = some z ∧ Same E (.ptr 0 t [] :: q) [.ptr 0 t [], .dat u x [], .dat v y []] := by
  unfold args2 at h
  split at h
  · rename_i a b hn
    obtain ⟨x, v, q, rfl, rfl, h1, h⟩ := el_head hn h
    obtain ⟨y, v', q', rfl, rfl, h2, h⟩ := el_head h1 h
    refine ⟨x, y, h, Same.ptr hps hn ?_⟩
    intro s hs
    simp only [List.mem_cons, List.not_mem_nil, or_false] at hs
    rcases hs with rfl | rfl <;> exact dat_ok
  · cases h
theorem ownB3 {t u v w : Ty} {q : List SV} {F : El u → El v → El w → Option R} {z : R} (hps : E.ps = [.unit, u, v, w]) (h : args3 u v w (normA [u, v, w] q) F = some z) : ∃ x y a, F x y a = some z ∧ Same E (.ptr 0 t [] :: q) [.ptr 0 t [], .dat u x [], .dat v y [], .dat w a []] := by
  unfold args3 at h
  split at h
  · rename_i a b c hn
    obtain ⟨x, v, q, rfl, rfl, h1, h⟩ := el_head hn h
    obtain ⟨y, v', q', rfl, rfl, h2, h⟩ := el_head h1 h
    obtain ⟨w', v', q', rfl, rfl, h3, h⟩ := el_head h2 h
    refine ⟨x, y, w', h, Same.ptr hps hn ?_⟩
    intro s hs
    simp only [List.mem_cons, List.not_mem_nil, or_false] at hs
    rcases hs with rfl | rfl | rfl <;> exact dat_ok
  · cases h
end
end Go.Ref

/- The functions of class as plain Lean. -/
set_option linter.unusedVariables false
set_option linter.unusedSimpArgs false
set_option maxRecDepth 100000
namespace Groat
open Go Go.Ref
def class_sets_s0 {R : Type} (class_0 : Int) (kr0 : Int → Option R) : Option R :=
  (bif (decide (class_0 = (1 : Int))) then (kr0 (1 : Int)) else (bif (decide (class_0 = (2 : Int))) then (kr0 (2 : Int)) else (bif (decide (class_0 = (3 : Int))) then (kr0 (3 : Int)) else (bif (decide (class_0 = (4 : Int))) then (kr0 (7 : Int)) else (bif (decide (class_0 = (5 : Int))) then (kr0 (15 : Int)) else (bif (decide (class_0 = (6 : Int))) then (kr0 (15 : Int)) else (kr0 (0 : Int))))))))
theorem class_sets_s0_bind {R S : Type} (F : R → Option S) (class_0 : Int) (kr0 : Int → Option R) : (class_sets_s0 class_0 kr0).bind F = class_sets_s0 class_0 (fun a0 => (kr0 a0).bind F) := by
  simp only [class_sets_s0, cond_bind, within_bind, none_bind, some_bind, sum_bind, bind_bind]
def class_sets (class_0 : Int) : Option Int :=
  class_sets_s0 class_0 (fun a0 => some a0)
def class_Known_s0 {R : Type} (class_0 : Int) (kr0 : Bool → Option R) : Option R :=
  ((class_sets class_0).bind fun r1 => (kr0 (!(decide (r1 = (0 : Int))))))
theorem class_Known_s0_bind {R S : Type} (F : R → Option S) (class_0 : Int) (kr0 : Bool → Option R) : (class_Known_s0 class_0 kr0).bind F = class_Known_s0 class_0 (fun a0 => (kr0 a0).bind F) := by
  simp only [class_Known_s0, cond_bind, within_bind, none_bind, some_bind, sum_bind, bind_bind]
def class_Known (class_0 : Int) : Option Bool :=
  class_Known_s0 class_0 (fun a0 => some a0)
def class_Wider_s0 {R : Type} (a_0 : Int) (b_1 : Int) (kr0 : Bool → Option R) : Option R :=
  ((class_Known a_0).bind fun r1 => (bif r1 then ((class_Known b_1).bind fun r2 => (bif r2 then ((class_sets b_1).bind fun r3 => ((class_sets a_0).bind fun r4 => (kr0 (decide ((ibits .andNot .i64 r3 r4) = (0 : Int)))))) else (kr0 false))) else (kr0 false)))
theorem class_Wider_s0_bind {R S : Type} (F : R → Option S) (a_0 : Int) (b_1 : Int) (kr0 : Bool → Option R) : (class_Wider_s0 a_0 b_1 kr0).bind F = class_Wider_s0 a_0 b_1 (fun a0 => (kr0 a0).bind F) := by
  simp only [class_Wider_s0, cond_bind, within_bind, none_bind, some_bind, sum_bind, bind_bind]
def class_Wider (a_0 : Int) (b_1 : Int) : Option Bool :=
  class_Wider_s0 a_0 b_1 (fun a0 => some a0)
def class_of_s0 {R : Type} (b_0 : Int) (kr0 : Int → Option R) : Option R :=
  (bif (decide ((48 : Int) ≤ b_0)) then (bif (decide (b_0 ≤ (57 : Int))) then (kr0 (1 : Int)) else (bif (decide ((65 : Int) ≤ b_0)) then (bif (decide (b_0 ≤ (90 : Int))) then (kr0 (2 : Int)) else (bif (decide ((97 : Int) ≤ b_0)) then (bif (decide (b_0 ≤ (122 : Int))) then (kr0 (2 : Int)) else (bif (decide ((32 : Int) ≤ b_0)) then (bif (decide (b_0 ≤ (126 : Int))) then (kr0 (4 : Int)) else (kr0 (8 : Int))) else (kr0 (8 : Int)))) else (bif (decide ((32 : Int) ≤ b_0)) then (bif (decide (b_0 ≤ (126 : Int))) then (kr0 (4 : Int)) else (kr0 (8 : Int))) else (kr0 (8 : Int))))) else (bif (decide ((97 : Int) ≤ b_0)) then (bif (decide (b_0 ≤ (122 : Int))) then (kr0 (2 : Int)) else (bif (decide ((32 : Int) ≤ b_0)) then (bif (decide (b_0 ≤ (126 : Int))) then (kr0 (4 : Int)) else (kr0 (8 : Int))) else (kr0 (8 : Int)))) else (bif (decide ((32 : Int) ≤ b_0)) then (bif (decide (b_0 ≤ (126 : Int))) then (kr0 (4 : Int)) else (kr0 (8 : Int))) else (kr0 (8 : Int)))))) else (bif (decide ((65 : Int) ≤ b_0)) then (bif (decide (b_0 ≤ (90 : Int))) then (kr0 (2 : Int)) else (bif (decide ((97 : Int) ≤ b_0)) then (bif (decide (b_0 ≤ (122 : Int))) then (kr0 (2 : Int)) else (bif (decide ((32 : Int) ≤ b_0)) then (bif (decide (b_0 ≤ (126 : Int))) then (kr0 (4 : Int)) else (kr0 (8 : Int))) else (kr0 (8 : Int)))) else (bif (decide ((32 : Int) ≤ b_0)) then (bif (decide (b_0 ≤ (126 : Int))) then (kr0 (4 : Int)) else (kr0 (8 : Int))) else (kr0 (8 : Int))))) else (bif (decide ((97 : Int) ≤ b_0)) then (bif (decide (b_0 ≤ (122 : Int))) then (kr0 (2 : Int)) else (bif (decide ((32 : Int) ≤ b_0)) then (bif (decide (b_0 ≤ (126 : Int))) then (kr0 (4 : Int)) else (kr0 (8 : Int))) else (kr0 (8 : Int)))) else (bif (decide ((32 : Int) ≤ b_0)) then (bif (decide (b_0 ≤ (126 : Int))) then (kr0 (4 : Int)) else (kr0 (8 : Int))) else (kr0 (8 : Int))))))
theorem class_of_s0_bind {R S : Type} (F : R → Option S) (b_0 : Int) (kr0 : Int → Option R) : (class_of_s0 b_0 kr0).bind F = class_of_s0 b_0 (fun a0 => (kr0 a0).bind F) := by
  simp only [class_of_s0, cond_bind, within_bind, none_bind, some_bind, sum_bind, bind_bind]
def class_of (b_0 : Int) : Option Int :=
  class_of_s0 b_0 (fun a0 => some a0)
def class_First_s0 {R : Type} (class_0 : Int) (s_1 : ByteArray) (go0 : ByteArray → Int → Int → Option R) : Option R :=
  ((class_sets class_0).bind fun r1 => (go0 s_1 r1 (0 : Int)))
theorem class_First_s0_bind {R S : Type} (F : R → Option S) (class_0 : Int) (s_1 : ByteArray) (go0 : ByteArray → Int → Int → Option R) : (class_First_s0 class_0 s_1 go0).bind F = class_First_s0 class_0 s_1 (fun a0 a1 a2 => (go0 a0 a1 a2).bind F) := by
  simp only [class_First_s0, cond_bind, within_bind, none_bind, some_bind, sum_bind, bind_bind]
def class_First_s1 {R : Type} (s_1 : ByteArray) (t5 : Int) (t6 : Int) (ex0_0 : Int → Option R) (nx0 : ByteArray → Int → Int → Option R) (ex0_1 : Option R) : Option R :=
  (bif (decide (t6 < ((s_1).size : Int))) then (within t6 (s_1).size ((class_of (byteAt s_1 (t6).toNat)).bind fun r2 => (bif (decide ((ibits .and .i64 t5 r2) = (0 : Int))) then (ex0_0 t6) else (nx0 s_1 t5 (IntKind.i64.wrap (t6 + (1 : Int))))))) else (ex0_1))
theorem class_First_s1_bind {R S : Type} (F : R → Option S) (s_1 : ByteArray) (t5 : Int) (t6 : Int) (ex0_0 : Int → Option R) (nx0 : ByteArray → Int → Int → Option R) (ex0_1 : Option R) : (class_First_s1 s_1 t5 t6 ex0_0 nx0 ex0_1).bind F = class_First_s1 s_1 t5 t6 (fun a0 => (ex0_0 a0).bind F) (fun a0 a1 a2 => (nx0 a0 a1 a2).bind F) ((ex0_1).bind F) := by
  simp only [class_First_s1, cond_bind, within_bind, none_bind, some_bind, sum_bind, bind_bind]
def class_First_s2 {R : Type} (t4 : Int) (kr0 : Int → Option R) : Option R :=
  (kr0 t4)
theorem class_First_s2_bind {R S : Type} (F : R → Option S) (t4 : Int) (kr0 : Int → Option R) : (class_First_s2 t4 kr0).bind F = class_First_s2 t4 (fun a0 => (kr0 a0).bind F) := by
  simp only [class_First_s2, cond_bind, within_bind, none_bind, some_bind, sum_bind, bind_bind]
def class_First_s3 {R : Type}  (kr0 : Int → Option R) : Option R :=
  (kr0 (-1 : Int))
theorem class_First_s3_bind {R S : Type} (F : R → Option S)  (kr0 : Int → Option R) : (class_First_s3 kr0).bind F = class_First_s3 (fun a0 => (kr0 a0).bind F) := by
  simp only [class_First_s3, cond_bind, within_bind, none_bind, some_bind, sum_bind, bind_bind]
def class_First_l0 : Nat → ByteArray → Int → Int → Option (Sum Int Unit)
  | 0, _, _, _ => none
  | k + 1, v0, v1, v2 => class_First_s1 v0 v1 v2 (fun a0 => some (.inl a0)) (fun a0 a1 a2 => class_First_l0 k a0 a1 a2) (some (.inr ()))
def class_First (class_0 : Int) (s_1 : ByteArray) : Option Int :=
  class_First_s0 class_0 s_1 (fun a0 a1 a2 => (class_First_l0 FUEL a0 a1 a2).bind fun e => (Sum.elim (fun (we : Int) => class_First_s2 we (fun a0 => some a0)) (fun (we : Unit) => class_First_s3 (fun a0 => some a0)) e))
end Groat

/- The functions of mathbits as plain Lean. -/
set_option linter.unusedVariables false
set_option linter.unusedSimpArgs false
set_option maxRecDepth 100000
namespace Groat
open Go Go.Ref
def math_bits_Mul64_s0 {R : Type} (x_0 : Int) (y_1 : Int) (kr0 : Int → Int → Option R) : Option R :=
  (kr0 (IntKind.u64.wrap ((IntKind.u64.wrap ((IntKind.u64.wrap ((Int.fdiv x_0 (2 ^ min ((32 : Int)).toNat 64)) * (Int.fdiv y_1 (2 ^ min ((32 : Int)).toNat 64)))) + (Int.fdiv (IntKind.u64.wrap ((IntKind.u64.wrap ((Int.fdiv x_0 (2 ^ min ((32 : Int)).toNat 64)) * (ibits .and .u64 y_1 (4294967295 : Int)))) + (Int.fdiv (IntKind.u64.wrap ((ibits .and .u64 x_0 (4294967295 : Int)) * (ibits .and .u64 y_1 (4294967295 : Int)))) (2 ^ min ((32 : Int)).toNat 64)))) (2 ^ min ((32 : Int)).toNat 64)))) + (Int.fdiv (IntKind.u64.wrap ((ibits .and .u64 (IntKind.u64.wrap ((IntKind.u64.wrap ((Int.fdiv x_0 (2 ^ min ((32 : Int)).toNat 64)) * (ibits .and .u64 y_1 (4294967295 : Int)))) + (Int.fdiv (IntKind.u64.wrap ((ibits .and .u64 x_0 (4294967295 : Int)) * (ibits .and .u64 y_1 (4294967295 : Int)))) (2 ^ min ((32 : Int)).toNat 64)))) (4294967295 : Int)) + (IntKind.u64.wrap ((ibits .and .u64 x_0 (4294967295 : Int)) * (Int.fdiv y_1 (2 ^ min ((32 : Int)).toNat 64)))))) (2 ^ min ((32 : Int)).toNat 64)))) (IntKind.u64.wrap (x_0 * y_1)))
theorem math_bits_Mul64_s0_bind {R S : Type} (F : R → Option S) (x_0 : Int) (y_1 : Int) (kr0 : Int → Int → Option R) : (math_bits_Mul64_s0 x_0 y_1 kr0).bind F = math_bits_Mul64_s0 x_0 y_1 (fun a0 a1 => (kr0 a0 a1).bind F) := by
  simp only [math_bits_Mul64_s0, cond_bind, within_bind, none_bind, some_bind, sum_bind, bind_bind]
def math_bits_Mul64 (x_0 : Int) (y_1 : Int) : Option (Int × Int) :=
  math_bits_Mul64_s0 x_0 y_1 (fun a0 a1 => some (a0, a1))
def math_bits_Mul_s0 {R : Type} (x_0 : Int) (y_1 : Int) (kr0 : Int → Int → Option R) : Option R :=
  ((math_bits_Mul64 x_0 y_1).bind fun r1 => (kr0 r1.1 r1.2))
theorem math_bits_Mul_s0_bind {R S : Type} (F : R → Option S) (x_0 : Int) (y_1 : Int) (kr0 : Int → Int → Option R) : (math_bits_Mul_s0 x_0 y_1 kr0).bind F = math_bits_Mul_s0 x_0 y_1 (fun a0 a1 => (kr0 a0 a1).bind F) := by
  simp only [math_bits_Mul_s0, cond_bind, within_bind, none_bind, some_bind, sum_bind, bind_bind]
def math_bits_Mul (x_0 : Int) (y_1 : Int) : Option (Int × Int) :=
  math_bits_Mul_s0 x_0 y_1 (fun a0 a1 => some (a0, a1))
def math_bits_Mul32_s0 {R : Type} (x_0 : Int) (y_1 : Int) (kr0 : Int → Int → Option R) : Option R :=
  (kr0 (IntKind.u32.wrap (Int.fdiv (IntKind.u64.wrap ((IntKind.u64.wrap x_0) * (IntKind.u64.wrap y_1))) (2 ^ min ((32 : Int)).toNat 64))) (IntKind.u32.wrap (IntKind.u64.wrap ((IntKind.u64.wrap x_0) * (IntKind.u64.wrap y_1)))))
theorem math_bits_Mul32_s0_bind {R S : Type} (F : R → Option S) (x_0 : Int) (y_1 : Int) (kr0 : Int → Int → Option R) : (math_bits_Mul32_s0 x_0 y_1 kr0).bind F = math_bits_Mul32_s0 x_0 y_1 (fun a0 a1 => (kr0 a0 a1).bind F) := by
  simp only [math_bits_Mul32_s0, cond_bind, within_bind, none_bind, some_bind, sum_bind, bind_bind]
def math_bits_Mul32 (x_0 : Int) (y_1 : Int) : Option (Int × Int) :=
  math_bits_Mul32_s0 x_0 y_1 (fun a0 a1 => some (a0, a1))
def math_bits_Len64_s0 {R : Type} (x_0 : Int) (kr0 : Int → Option R) : Option R :=
  (bif (decide ((4294967296 : Int) ≤ x_0)) then (bif (decide ((65536 : Int) ≤ (Int.fdiv x_0 (2 ^ min ((32 : Int)).toNat 64)))) then (bif (decide ((256 : Int) ≤ (Int.fdiv (Int.fdiv x_0 (2 ^ min ((32 : Int)).toNat 64)) (2 ^ min ((16 : Int)).toNat 64)))) then (within (IntKind.u8.wrap (Int.fdiv (Int.fdiv (Int.fdiv x_0 (2 ^ min ((32 : Int)).toNat 64)) (2 ^ min ((16 : Int)).toNat 64)) (2 ^ min ((8 : Int)).toNat 64))) ((bs [0, 1, 2, 2, 3, 3, 3, 3, 4, 4, 4, 4, 4, 4, 4, 4, 5, 5, 5, 5, 5, 5, 5, 5, 5, 5, 5, 5, 5, 5, 5, 5, 6, 6, 6, 6, 6, 6, 6, 6, 6, 6, 6, 6, 6, 6, 6, 6, 6, 6, 6, 6, 6, 6, 6, 6, 6, 6, 6, 6, 6, 6, 6, 6, 7, 7, 7, 7, 7, 7, 7, 7, 7, 7, 7, 7, 7, 7, 7, 7, 7, 7, 7, 7, 7, 7, 7, 7, 7, 7, 7, 7, 7, 7, 7, 7, 7, 7, 7, 7, 7, 7, 7, 7, 7, 7, 7, 7, 7, 7, 7, 7, 7, 7, 7, 7, 7, 7, 7, 7, 7, 7, 7, 7, 7, 7, 7, 7, 8, 8, 8, 8, 8, 8, 8, 8, 8, 8, 8, 8, 8, 8, 8, 8, 8, 8, 8, 8, 8, 8, 8, 8, 8, 8, 8, 8, 8, 8, 8, 8, 8, 8, 8, 8, 8, 8, 8, 8, 8, 8, 8, 8, 8, 8, 8, 8, 8, 8, 8, 8, 8, 8, 8, 8, 8, 8, 8, 8, 8, 8, 8, 8, 8, 8, 8, 8, 8, 8, 8, 8, 8, 8, 8, 8, 8, 8, 8, 8, 8, 8, 8, 8, 8, 8, 8, 8, 8, 8, 8, 8, 8, 8, 8, 8, 8, 8, 8, 8, 8, 8, 8, 8, 8, 8, 8, 8, 8, 8, 8, 8, 8, 8, 8, 8, 8, 8, 8, 8, 8, 8, 8, 8, 8, 8, 8, 8])).size (kr0 (IntKind.i64.wrap ((IntKind.i64.wrap ((IntKind.i64.wrap ((32 : Int) + (16 : Int))) + (8 : Int))) + (IntKind.i64.wrap (byteAt (bs [0, 1, 2, 2, 3, 3, 3, 3, 4, 4, 4, 4, 4, 4, 4, 4, 5, 5, 5, 5, 5, 5, 5, 5, 5, 5, 5, 5, 5, 5, 5, 5, 6, 6, 6, 6, 6, 6, 6, 6, 6, 6, 6, 6, 6, 6, 6, 6, 6, 6, 6, 6, 6, 6, 6, 6, 6, 6, 6, 6, 6, 6, 6, 6, 7, 7, 7, 7, 7, 7, 7, 7, 7, 7, 7, 7, 7, 7, 7, 7, 7, 7, 7, 7, 7, 7, 7, 7, 7, 7, 7, 7, 7, 7, 7, 7, 7, 7, 7, 7, 7, 7, 7, 7, 7, 7, 7, 7, 7, 7, 7, 7, 7, 7, 7, 7, 7, 7, 7, 7, 7, 7, 7, 7, 7, 7, 7, 7, 8, 8, 8, 8, 8, 8, 8, 8, 8, 8, 8, 8, 8, 8, 8, 8, 8, 8, 8, 8, 8, 8, 8, 8, 8, 8, 8, 8, 8, 8, 8, 8, 8, 8, 8, 8, 8, 8, 8, 8, 8, 8, 8, 8, 8, 8, 8, 8, 8, 8, 8, 8, 8, 8, 8, 8, 8, 8, 8, 8, 8, 8, 8, 8, 8, 8, 8, 8, 8, 8, 8, 8, 8, 8, 8, 8, 8, 8, 8, 8, 8, 8, 8, 8, 8, 8, 8, 8, 8, 8, 8, 8, 8, 8, 8, 8, 8, 8, 8, 8, 8, 8, 8, 8, 8, 8, 8, 8, 8, 8, 8, 8, 8, 8, 8, 8, 8, 8, 8, 8, 8, 8, 8, 8, 8, 8, 8, 8]) ((IntKind.u8.wrap (Int.fdiv (Int.fdiv (Int.fdiv x_0 (2 ^ min ((32 : Int)).toNat 64)) (2 ^ min ((16 : Int)).toNat 64)) (2 ^ min ((8 : Int)).toNat 64)))).toNat)))))) else (within (IntKind.u8.wrap (Int.fdiv (Int.fdiv x_0 (2 ^ min ((32 : Int)).toNat 64)) (2 ^ min ((16 : Int)).toNat 64))) ((bs [0, 1, 2, 2, 3, 3, 3, 3, 4, 4, 4, 4, 4, 4, 4, 4, 5, 5, 5, 5, 5, 5, 5, 5, 5, 5, 5, 5, 5, 5, 5, 5, 6, 6, 6, 6, 6, 6, 6, 6, 6, 6, 6, 6, 6, 6, 6, 6, 6, 6, 6, 6, 6, 6, 6, 6, 6, 6, 6, 6, 6, 6, 6, 6, 7, 7, 7, 7, 7, 7, 7, 7, 7, 7, 7, 7, 7, 7, 7, 7, 7, 7, 7, 7, 7, 7, 7, 7, 7, 7, 7, 7, 7, 7, 7, 7, 7, 7, 7, 7, 7, 7, 7, 7, 7, 7, 7, 7, 7, 7, 7, 7, 7, 7, 7, 7, 7, 7, 7, 7, 7, 7, 7, 7, 7, 7, 7, 7, 8, 8, 8, 8, 8, 8, 8, 8, 8, 8, 8, 8, 8, 8, 8, 8, 8, 8, 8, 8, 8, 8, 8, 8, 8, 8, 8, 8, 8, 8, 8, 8, 8, 8, 8, 8, 8, 8, 8, 8, 8, 8, 8, 8, 8, 8, 8, 8, 8, 8, 8, 8, 8, 8, 8, 8, 8, 8, 8, 8, 8, 8, 8, 8, 8, 8, 8, 8, 8, 8, 8, 8, 8, 8, 8, 8, 8, 8, 8, 8, 8, 8, 8, 8, 8, 8, 8, 8, 8, 8, 8, 8, 8, 8, 8, 8, 8, 8, 8, 8, 8, 8, 8, 8, 8, 8, 8, 8, 8, 8, 8, 8, 8, 8, 8, 8, 8, 8, 8, 8, 8, 8, 8, 8, 8, 8, 8, 8])).size (kr0 (IntKind.i64.wrap ((IntKind.i64.wrap ((32 : Int) + (16 : Int))) + (IntKind.i64.wrap (byteAt (bs [0, 1, 2, 2, 3, 3, 3, 3, 4, 4, 4, 4, 4, 4, 4, 4, 5, 5, 5, 5, 5, 5, 5, 5, 5, 5, 5, 5, 5, 5, 5, 5, 6, 6, 6, 6, 6, 6, 6, 6, 6, 6, 6, 6, 6, 6, 6, 6, 6, 6, 6, 6, 6, 6, 6, 6, 6, 6, 6, 6, 6, 6, 6, 6, 7, 7, 7, 7, 7, 7, 7, 7, 7, 7, 7, 7, 7, 7, 7, 7, 7, 7, 7, 7, 7, 7, 7, 7, 7, 7, 7, 7, 7, 7, 7, 7, 7, 7, 7, 7, 7, 7, 7, 7, 7, 7, 7, 7, 7, 7, 7, 7, 7, 7, 7, 7, 7, 7, 7, 7, 7, 7, 7, 7, 7, 7, 7, 7, 8, 8, 8, 8, 8, 8, 8, 8, 8, 8, 8, 8, 8, 8, 8, 8, 8, 8, 8, 8, 8, 8, 8, 8, 8, 8, 8, 8, 8, 8, 8, 8, 8, 8, 8, 8, 8, 8, 8, 8, 8, 8, 8, 8, 8, 8, 8, 8, 8, 8, 8, 8, 8, 8, 8, 8, 8, 8, 8, 8, 8, 8, 8, 8, 8, 8, 8, 8, 8, 8, 8, 8, 8, 8, 8, 8, 8, 8, 8, 8, 8, 8, 8, 8, 8, 8, 8, 8, 8, 8, 8, 8, 8, 8, 8, 8, 8, 8, 8, 8, 8, 8, 8, 8, 8, 8, 8, 8, 8, 8, 8, 8, 8, 8, 8, 8, 8, 8, 8, 8, 8, 8, 8, 8, 8, 8, 8, 8]) ((IntKind.u8.wrap (Int.fdiv (Int.fdiv x_0 (2 ^ min ((32 : Int)).toNat 64)) (2 ^ min ((16 : Int)).toNat 64)))).toNat))))))) else (bif (decide ((256 : Int) ≤ (Int.fdiv x_0 (2 ^ min ((32 : Int)).toNat 64)))) then (within (IntKind.u8.wrap (Int.fdiv (Int.fdiv x_0 (2 ^ min ((32 : Int)).toNat 64)) (2 ^ min ((8 : Int)).toNat 64))) ((bs [0, 1, 2, 2, 3, 3, 3, 3, 4, 4, 4, 4, 4, 4, 4, 4, 5, 5, 5, 5, 5, 5, 5, 5, 5, 5, 5, 5, 5, 5, 5, 5, 6, 6, 6, 6, 6, 6, 6, 6, 6, 6, 6, 6, 6, 6, 6, 6, 6, 6, 6, 6, 6, 6, 6, 6, 6, 6, 6, 6, 6, 6, 6, 6, 7, 7, 7, 7, 7, 7, 7, 7, 7, 7, 7, 7, 7, 7, 7, 7, 7, 7, 7, 7, 7, 7, 7, 7, 7, 7, 7, 7, 7, 7, 7, 7, 7, 7, 7, 7, 7, 7, 7, 7, 7, 7, 7, 7, 7, 7, 7, 7, 7, 7, 7, 7, 7, 7, 7, 7, 7, 7, 7, 7, 7, 7, 7, 7, 8, 8, 8, 8, 8, 8, 8, 8, 8, 8, 8, 8, 8, 8, 8, 8, 8, 8, 8, 8, 8, 8, 8, 8, 8, 8, 8, 8, 8, 8, 8, 8, 8, 8, 8, 8, 8, 8, 8, 8, 8, 8, 8, 8, 8, 8, 8, 8, 8, 8, 8, 8, 8, 8, 8, 8, 8, 8, 8, 8, 8, 8, 8, 8, 8, 8, 8, 8, 8, 8, 8, 8, 8, 8, 8, 8, 8, 8, 8, 8, 8, 8, 8, 8, 8, 8, 8, 8, 8, 8, 8, 8, 8, 8, 8, 8, 8, 8, 8, 8, 8, 8, 8, 8, 8, 8, 8, 8, 8, 8, 8, 8, 8, 8, 8, 8, 8, 8, 8, 8, 8, 8, 8, 8, 8, 8, 8, 8])).size (kr0 (IntKind.i64.wrap ((IntKind.i64.wrap ((32 : Int) + (8 : Int))) + (IntKind.i64.wrap (byteAt (bs [0, 1, 2, 2, 3, 3, 3, 3, 4, 4, 4, 4, 4, 4, 4, 4, 5, 5, 5, 5, 5, 5, 5, 5, 5, 5, 5, 5, 5, 5, 5, 5, 6, 6, 6, 6, 6, 6, 6, 6, 6, 6, 6, 6, 6, 6, 6, 6, 6, 6, 6, 6, 6, 6, 6, 6, 6, 6, 6, 6, 6, 6, 6, 6, 7, 7, 7, 7, 7, 7, 7, 7, 7, 7, 7, 7, 7, 7, 7, 7, 7, 7, 7, 7, 7, 7, 7, 7, 7, 7, 7, 7, 7, 7, 7, 7, 7, 7, 7, 7, 7, 7, 7, 7, 7, 7, 7, 7, 7, 7, 7, 7, 7, 7, 7, 7, 7, 7, 7, 7, 7, 7, 7, 7, 7, 7, 7, 7, 8, 8, 8, 8, 8, 8, 8, 8, 8, 8, 8, 8, 8, 8, 8, 8, 8, 8, 8, 8, 8, 8, 8, 8, 8, 8, 8, 8, 8, 8, 8, 8, 8, 8, 8, 8, 8, 8, 8, 8, 8, 8, 8, 8, 8, 8, 8, 8, 8, 8, 8, 8, 8, 8, 8, 8, 8, 8, 8, 8, 8, 8, 8, 8, 8, 8, 8, 8, 8, 8, 8, 8, 8, 8, 8, 8, 8, 8, 8, 8, 8, 8, 8, 8, 8, 8, 8, 8, 8, 8, 8, 8, 8, 8, 8, 8, 8, 8, 8, 8, 8, 8, 8, 8, 8, 8, 8, 8, 8, 8, 8, 8, 8, 8, 8, 8, 8, 8, 8, 8, 8, 8, 8, 8, 8, 8, 8, 8]) ((IntKind.u8.wrap (Int.fdiv (Int.fdiv x_0 (2 ^ min ((32 : Int)).toNat 64)) (2 ^ min ((8 : Int)).toNat 64)))).toNat)))))) else (within (IntKind.u8.wrap (Int.fdiv x_0 (2 ^ min ((32 : Int)).toNat 64))) ((bs [0, 1, 2, 2, 3, 3, 3, 3, 4, 4, 4, 4, 4, 4, 4, 4, 5, 5, 5, 5, 5, 5, 5, 5, 5, 5, 5, 5, 5, 5, 5, 5, 6, 6, 6, 6, 6, 6, 6, 6, 6, 6, 6, 6, 6, 6, 6, 6, 6, 6, 6, 6, 6, 6, 6, 6, 6, 6, 6, 6, 6, 6, 6, 6, 7, 7, 7, 7, 7, 7, 7, 7, 7, 7, 7, 7, 7, 7, 7, 7, 7, 7, 7, 7, 7, 7, 7, 7, 7, 7, 7, 7, 7, 7, 7, 7, 7, 7, 7, 7, 7, 7, 7, 7, 7, 7, 7, 7, 7, 7, 7, 7, 7, 7, 7, 7, 7, 7, 7, 7, 7, 7, 7, 7, 7, 7, 7, 7, 8, 8, 8, 8, 8, 8, 8, 8, 8, 8, 8, 8, 8, 8, 8, 8, 8, 8, 8, 8, 8, 8, 8, 8, 8, 8, 8, 8, 8, 8, 8, 8, 8, 8, 8, 8, 8, 8, 8, 8, 8, 8, 8, 8, 8, 8, 8, 8, 8, 8, 8, 8, 8, 8, 8, 8, 8, 8, 8, 8, 8, 8, 8, 8, 8, 8, 8, 8, 8, 8, 8, 8, 8, 8, 8, 8, 8, 8, 8, 8, 8, 8, 8, 8, 8, 8, 8, 8, 8, 8, 8, 8, 8, 8, 8, 8, 8, 8, 8, 8, 8, 8, 8, 8, 8, 8, 8, 8, 8, 8, 8, 8, 8, 8, 8, 8, 8, 8, 8, 8, 8, 8, 8, 8, 8, 8, 8, 8])).size (kr0 (IntKind.i64.wrap ((32 : Int) + (IntKind.i64.wrap (byteAt (bs [0, 1, 2, 2, 3, 3, 3, 3, 4, 4, 4, 4, 4, 4, 4, 4, 5, 5, 5, 5, 5, 5, 5, 5, 5, 5, 5, 5, 5, 5, 5, 5, 6, 6, 6, 6, 6, 6, 6, 6, 6, 6, 6, 6, 6, 6, 6, 6, 6, 6, 6, 6, 6, 6, 6, 6, 6, 6, 6, 6, 6, 6, 6, 6, 7, 7, 7, 7, 7, 7, 7, 7, 7, 7, 7, 7, 7, 7, 7, 7, 7, 7, 7, 7, 7, 7, 7, 7, 7, 7, 7, 7, 7, 7, 7, 7, 7, 7, 7, 7, 7, 7, 7, 7, 7, 7, 7, 7, 7, 7, 7, 7, 7, 7, 7, 7, 7, 7, 7, 7, 7, 7, 7, 7, 7, 7, 7, 7, 8, 8, 8, 8, 8, 8, 8, 8, 8, 8, 8, 8, 8, 8, 8, 8, 8, 8, 8, 8, 8, 8, 8, 8, 8, 8, 8, 8, 8, 8, 8, 8, 8, 8, 8, 8, 8, 8, 8, 8, 8, 8, 8, 8, 8, 8, 8, 8, 8, 8, 8, 8, 8, 8, 8, 8, 8, 8, 8, 8, 8, 8, 8, 8, 8, 8, 8, 8, 8, 8, 8, 8, 8, 8, 8, 8, 8, 8, 8, 8, 8, 8, 8, 8, 8, 8, 8, 8, 8, 8, 8, 8, 8, 8, 8, 8, 8, 8, 8, 8, 8, 8, 8, 8, 8, 8, 8, 8, 8, 8, 8, 8, 8, 8, 8, 8, 8, 8, 8, 8, 8, 8, 8, 8, 8, 8, 8, 8]) ((IntKind.u8.wrap (Int.fdiv x_0 (2 ^ min ((32 : Int)).toNat 64)))).toNat)))))))) else (bif (decide ((65536 : Int) ≤ x_0)) then (bif (decide ((256 : Int) ≤ (Int.fdiv x_0 (2 ^ min ((16 : Int)).toNat 64)))) then (within (IntKind.u8.wrap (Int.fdiv (Int.fdiv x_0 (2 ^ min ((16 : Int)).toNat 64)) (2 ^ min ((8 : Int)).toNat 64))) ((bs [0, 1, 2, 2, 3, 3, 3, 3, 4, 4, 4, 4, 4, 4, 4, 4, 5, 5, 5, 5, 5, 5, 5, 5, 5, 5, 5, 5, 5, 5, 5, 5, 6, 6, 6, 6, 6, 6, 6, 6, 6, 6, 6, 6, 6, 6, 6, 6, 6, 6, 6, 6, 6, 6, 6, 6, 6, 6, 6, 6, 6, 6, 6, 6, 7, 7, 7, 7, 7, 7, 7, 7, 7, 7, 7, 7, 7, 7, 7, 7, 7, 7, 7, 7, 7, 7, 7, 7, 7, 7, 7, 7, 7, 7, 7, 7, 7, 7, 7, 7, 7, 7, 7, 7, 7, 7, 7, 7, 7, 7, 7, 7, 7, 7, 7, 7, 7, 7, 7, 7, 7, 7, 7, 7, 7, 7, 7, 7, 8, 8, 8, 8, 8, 8, 8, 8, 8, 8, 8, 8, 8, 8, 8, 8, 8, 8, 8, 8, 8, 8, 8, 8, 8, 8, 8, 8, 8, 8, 8, 8, 8, 8, 8, 8, 8, 8, 8, 8, 8, 8, 8, 8, 8, 8, 8, 8, 8, 8, 8, 8, 8, 8, 8, 8, 8, 8, 8, 8, 8, 8, 8, 8, 8, 8, 8, 8, 8, 8, 8, 8, 8, 8, 8, 8, 8, 8, 8, 8, 8, 8, 8, 8, 8, 8, 8, 8, 8, 8, 8, 8, 8, 8, 8, 8, 8, 8, 8, 8, 8, 8, 8, 8, 8, 8, 8, 8, 8, 8, 8, 8, 8, 8, 8, 8, 8, 8, 8, 8, 8, 8, 8, 8, 8, 8, 8, 8])).size (kr0 (IntKind.i64.wrap ((IntKind.i64.wrap ((IntKind.i64.wrap ((0 : Int) + (16 : Int))) + (8 : Int))) + (IntKind.i64.wrap (byteAt (bs [0, 1, 2, 2, 3, 3, 3, 3, 4, 4, 4, 4, 4, 4, 4, 4, 5, 5, 5, 5, 5, 5, 5, 5, 5, 5, 5, 5, 5, 5, 5, 5, 6, 6, 6, 6, 6, 6, 6, 6, 6, 6, 6, 6, 6, 6, 6, 6, 6, 6, 6, 6, 6, 6, 6, 6, 6, 6, 6, 6, 6, 6, 6, 6, 7, 7, 7, 7, 7, 7, 7, 7, 7, 7, 7, 7, 7, 7, 7, 7, 7, 7, 7, 7, 7, 7, 7, 7, 7, 7, 7, 7, 7, 7, 7, 7, 7, 7, 7, 7, 7, 7, 7, 7, 7, 7, 7, 7, 7, 7, 7, 7, 7, 7, 7, 7, 7, 7, 7, 7, 7, 7, 7, 7, 7, 7, 7, 7, 8, 8, 8, 8, 8, 8, 8, 8, 8, 8, 8, 8, 8, 8, 8, 8, 8, 8, 8, 8, 8, 8, 8, 8, 8, 8, 8, 8, 8, 8, 8, 8, 8, 8, 8, 8, 8, 8, 8, 8, 8, 8, 8, 8, 8, 8, 8, 8, 8, 8, 8, 8, 8, 8, 8, 8, 8, 8, 8, 8, 8, 8, 8, 8, 8, 8, 8, 8, 8, 8, 8, 8, 8, 8, 8, 8, 8, 8, 8, 8, 8, 8, 8, 8, 8, 8, 8, 8, 8, 8, 8, 8, 8, 8, 8, 8, 8, 8, 8, 8, 8, 8, 8, 8, 8, 8, 8, 8, 8, 8, 8, 8, 8, 8, 8, 8, 8, 8, 8, 8, 8, 8, 8, 8, 8, 8, 8, 8]) ((IntKind.u8.wrap (Int.fdiv (Int.fdiv x_0 (2 ^ min ((16 : Int)).toNat 64)) (2 ^ min ((8 : Int)).toNat 64)))).toNat)))))) else (within (IntKind.u8.wrap (Int.fdiv x_0 (2 ^ min ((16 : Int)).toNat 64))) ((bs [0, 1, 2, 2, 3, 3, 3, 3, 4, 4, 4, 4, 4, 4, 4, 4, 5, 5, 5, 5, 5, 5, 5, 5, 5, 5, 5, 5, 5, 5, 5, 5, 6, 6, 6, 6, 6, 6, 6, 6, 6, 6, 6, 6, 6, 6, 6, 6, 6, 6, 6, 6, 6, 6, 6, 6, 6, 6, 6, 6, 6, 6, 6, 6, 7, 7, 7, 7, 7, 7, 7, 7, 7, 7, 7, 7, 7, 7, 7, 7, 7, 7, 7, 7, 7, 7, 7, 7, 7, 7, 7, 7, 7, 7, 7, 7, 7, 7, 7, 7, 7, 7, 7, 7, 7, 7, 7, 7, 7, 7, 7, 7, 7, 7, 7, 7, 7, 7, 7, 7, 7, 7, 7, 7, 7, 7, 7, 7, 8, 8, 8, 8, 8, 8, 8, 8, 8, 8, 8, 8, 8, 8, 8, 8, 8, 8, 8, 8, 8, 8, 8, 8, 8, 8, 8, 8, 8, 8, 8, 8, 8, 8, 8, 8, 8, 8, 8, 8, 8, 8, 8, 8, 8, 8, 8, 8, 8, 8, 8, 8, 8, 8, 8, 8, 8, 8, 8, 8, 8, 8, 8, 8, 8, 8, 8, 8, 8, 8, 8, 8, 8, 8, 8, 8, 8, 8, 8, 8, 8, 8, 8, 8, 8, 8, 8, 8, 8, 8, 8, 8, 8, 8, 8, 8, 8, 8, 8, 8, 8, 8, 8, 8, 8, 8, 8, 8, 8, 8, 8, 8, 8, 8, 8, 8, 8, 8, 8, 8, 8, 8, 8, 8, 8, 8, 8, 8])).size (kr0 (IntKind.i64.wrap ((IntKind.i64.wrap ((0 : Int) + (16 : Int))) + (IntKind.i64.wrap (byteAt (bs [0, 1, 2, 2, 3, 3, 3, 3, 4, 4, 4, 4, 4, 4, 4, 4, 5, 5, 5, 5, 5, 5, 5, 5, 5, 5, 5, 5, 5, 5, 5, 5, 6, 6, 6, 6, 6, 6, 6, 6, 6, 6, 6, 6, 6, 6, 6, 6, 6, 6, 6, 6, 6, 6, 6, 6, 6, 6, 6, 6, 6, 6, 6, 6, 7, 7, 7, 7, 7, 7, 7, 7, 7, 7, 7, 7, 7, 7, 7, 7, 7, 7, 7, 7, 7, 7, 7, 7, 7, 7, 7, 7, 7, 7, 7, 7, 7, 7, 7, 7, 7, 7, 7, 7, 7, 7, 7, 7, 7, 7, 7, 7, 7, 7, 7, 7, 7, 7, 7, 7, 7, 7, 7, 7, 7, 7, 7, 7, 8, 8, 8, 8, 8, 8, 8, 8, 8, 8, 8, 8, 8, 8, 8, 8, 8, 8, 8, 8, 8, 8, 8, 8, 8, 8, 8, 8, 8, 8, 8, 8, 8, 8, 8, 8, 8, 8, 8, 8, 8, 8, 8, 8, 8, 8, 8, 8, 8, 8, 8, 8, 8, 8, 8, 8, 8, 8, 8, 8, 8, 8, 8, 8, 8, 8, 8, 8, 8, 8, 8, 8, 8, 8, 8, 8, 8, 8, 8, 8, 8, 8, 8, 8, 8, 8, 8, 8, 8, 8, 8, 8, 8, 8, 8, 8, 8, 8, 8, 8, 8, 8, 8, 8, 8, 8, 8, 8, 8, 8, 8, 8, 8, 8, 8, 8, 8, 8, 8, 8, 8, 8, 8, 8, 8, 8, 8, 8]) ((IntKind.u8.wrap (Int.fdiv x_0 (2 ^ min ((16 : Int)).toNat 64)))).toNat))))))) else (bif (decide ((256 : Int) ≤ x_0)) then (within (IntKind.u8.wrap (Int.fdiv x_0 (2 ^ min ((8 : Int)).toNat 64))) ((bs [0, 1, 2, 2, 3, 3, 3, 3, 4, 4, 4, 4, 4, 4, 4, 4, 5, 5, 5, 5, 5, 5, 5, 5, 5, 5, 5, 5, 5, 5, 5, 5, 6, 6, 6, 6, 6, 6, 6, 6, 6, 6, 6, 6, 6, 6, 6, 6, 6, 6, 6, 6, 6, 6, 6, 6, 6, 6, 6, 6, 6, 6, 6, 6, 7, 7, 7, 7, 7, 7, 7, 7, 7, 7, 7, 7, 7, 7, 7, 7, 7, 7, 7, 7, 7, 7, 7, 7, 7, 7, 7, 7, 7, 7, 7, 7, 7, 7, 7, 7, 7, 7, 7, 7, 7, 7, 7, 7, 7, 7, 7, 7, 7, 7, 7, 7, 7, 7, 7, 7, 7, 7, 7, 7, 7, 7, 7, 7, 8, 8, 8, 8, 8, 8, 8, 8, 8, 8, 8, 8, 8, 8, 8, 8, 8, 8, 8, 8, 8, 8, 8, 8, 8, 8, 8, 8, 8, 8, 8, 8, 8, 8, 8, 8, 8, 8, 8, 8, 8, 8, 8, 8, 8, 8, 8, 8, 8, 8, 8, 8, 8, 8, 8, 8, 8, 8, 8, 8, 8, 8, 8, 8, 8, 8, 8, 8, 8, 8, 8, 8, 8, 8, 8, 8, 8, 8, 8, 8, 8, 8, 8, 8, 8, 8, 8, 8, 8, 8, 8, 8, 8, 8, 8, 8, 8, 8, 8, 8, 8, 8, 8, 8, 8, 8, 8, 8, 8, 8, 8, 8, 8, 8, 8, 8, 8, 8, 8, 8, 8, 8, 8, 8, 8, 8, 8, 8])).size (kr0 (IntKind.i64.wrap ((IntKind.i64.wrap ((0 : Int) + (8 : Int))) + (IntKind.i64.wrap (byteAt (bs [0, 1, 2, 2, 3, 3, 3, 3, 4, 4, 4, 4, 4, 4, 4, 4, 5, 5, 5, 5, 5, 5, 5, 5, 5, 5, 5, 5, 5, 5, 5, 5, 6, 6, 6, 6, 6, 6, 6, 6, 6, 6, 6, 6, 6, 6, 6, 6, 6, 6, 6, 6, 6, 6, 6, 6, 6, 6, 6, 6, 6, 6, 6, 6, 7, 7, 7, 7, 7, 7, 7, 7, 7, 7, 7, 7, 7, 7, 7, 7, 7, 7, 7, 7, 7, 7, 7, 7, 7, 7, 7, 7, 7, 7, 7, 7, 7, 7, 7, 7, 7, 7, 7, 7, 7, 7, 7, 7, 7, 7, 7, 7, 7, 7, 7, 7, 7, 7, 7, 7, 7, 7, 7, 7, 7, 7, 7, 7, 8, 8, 8, 8, 8, 8, 8, 8, 8, 8, 8, 8, 8, 8, 8, 8, 8, 8, 8, 8, 8, 8, 8, 8, 8, 8, 8, 8, 8, 8, 8, 8, 8, 8, 8, 8, 8, 8, 8, 8, 8, 8, 8, 8, 8, 8, 8, 8, 8, 8, 8, 8, 8, 8, 8, 8, 8, 8, 8, 8, 8, 8, 8, 8, 8, 8, 8, 8, 8, 8, 8, 8, 8, 8, 8, 8, 8, 8, 8, 8, 8, 8, 8, 8, 8, 8, 8, 8, 8, 8, 8, 8, 8, 8, 8, 8, 8, 8, 8, 8, 8, 8, 8, 8, 8, 8, 8, 8, 8, 8, 8, 8, 8, 8, 8, 8, 8, 8, 8, 8, 8, 8, 8, 8, 8, 8, 8, 8]) ((IntKind.u8.wrap (Int.fdiv x_0 (2 ^ min ((8 : Int)).toNat 64)))).toNat)))))) else (within (IntKind.u8.wrap x_0) ((bs [0, 1, 2, 2, 3, 3, 3, 3, 4, 4, 4, 4, 4, 4, 4, 4, 5, 5, 5, 5, 5, 5, 5, 5, 5, 5, 5, 5, 5, 5, 5, 5, 6, 6, 6, 6, 6, 6, 6, 6, 6, 6, 6, 6, 6, 6, 6, 6, 6, 6, 6, 6, 6, 6, 6, 6, 6, 6, 6, 6, 6, 6, 6, 6, 7, 7, 7, 7, 7, 7, 7, 7, 7, 7, 7, 7, 7, 7, 7, 7, 7, 7, 7, 7, 7, 7, 7, 7, 7, 7, 7, 7, 7, 7, 7, 7, 7, 7, 7, 7, 7, 7, 7, 7, 7, 7, 7, 7, 7, 7, 7, 7, 7, 7, 7, 7, 7, 7, 7, 7, 7, 7, 7, 7, 7, 7, 7, 7, 8, 8, 8, 8, 8, 8, 8, 8, 8, 8, 8, 8, 8, 8, 8, 8, 8, 8, 8, 8, 8, 8, 8, 8, 8, 8, 8, 8, 8, 8, 8, 8, 8, 8, 8, 8, 8, 8, 8, 8, 8, 8, 8, 8, 8, 8, 8, 8, 8, 8, 8, 8, 8, 8, 8, 8, 8, 8, 8, 8, 8, 8, 8, 8, 8, 8, 8, 8, 8, 8, 8, 8, 8, 8, 8, 8, 8, 8, 8, 8, 8, 8, 8, 8, 8, 8, 8, 8, 8, 8, 8, 8, 8, 8, 8, 8, 8, 8, 8, 8, 8, 8, 8, 8, 8, 8, 8, 8, 8, 8, 8, 8, 8, 8, 8, 8, 8, 8, 8, 8, 8, 8, 8, 8, 8, 8, 8, 8])).size (kr0 (IntKind.i64.wrap ((0 : Int) + (IntKind.i64.wrap (byteAt (bs [0, 1, 2, 2, 3, 3, 3, 3, 4, 4, 4, 4, 4, 4, 4, 4, 5, 5, 5, 5, 5, 5, 5, 5, 5, 5, 5, 5, 5, 5, 5, 5, 6, 6, 6, 6, 6, 6, 6, 6, 6, 6, 6, 6, 6, 6, 6, 6, 6, 6, 6, 6, 6, 6, 6, 6, 6, 6, 6, 6, 6, 6, 6, 6, 7, 7, 7, 7, 7, 7, 7, 7, 7, 7, 7, 7, 7, 7, 7, 7, 7, 7, 7, 7, 7, 7, 7, 7, 7, 7, 7, 7, 7, 7, 7, 7, 7, 7, 7, 7, 7, 7, 7, 7, 7, 7, 7, 7, 7, 7, 7, 7, 7, 7, 7, 7, 7, 7, 7, 7, 7, 7, 7, 7, 7, 7, 7, 7, 8, 8, 8, 8, 8, 8, 8, 8, 8, 8, 8, 8, 8, 8, 8, 8, 8, 8, 8, 8, 8, 8, 8, 8, 8, 8, 8, 8, 8, 8, 8, 8, 8, 8, 8, 8, 8, 8, 8, 8, 8, 8, 8, 8, 8, 8, 8, 8, 8, 8, 8, 8, 8, 8, 8, 8, 8, 8, 8, 8, 8, 8, 8, 8, 8, 8, 8, 8, 8, 8, 8, 8, 8, 8, 8, 8, 8, 8, 8, 8, 8, 8, 8, 8, 8, 8, 8, 8, 8, 8, 8, 8, 8, 8, 8, 8, 8, 8, 8, 8, 8, 8, 8, 8, 8, 8, 8, 8, 8, 8, 8, 8, 8, 8, 8, 8, 8, 8, 8, 8, 8, 8, 8, 8, 8, 8, 8, 8]) ((IntKind.u8.wrap x_0)).toNat)))))))))
theorem math_bits_Len64_s0_bind {R S : Type} (F : R → Option S) (x_0 : Int) (kr0 : Int → Option R) : (math_bits_Len64_s0 x_0 kr0).bind F = math_bits_Len64_s0 x_0 (fun a0 => (kr0 a0).bind F) := by
  simp only [math_bits_Len64_s0, cond_bind, within_bind, none_bind, some_bind, sum_bind, bind_bind]
def math_bits_Len64 (x_0 : Int) : Option Int :=
  math_bits_Len64_s0 x_0 (fun a0 => some a0)
def math_bits_LeadingZeros64_s0 {R : Type} (x_0 : Int) (kr0 : Int → Option R) : Option R :=
  ((math_bits_Len64 x_0).bind fun r1 => (kr0 (IntKind.i64.wrap ((64 : Int) - r1))))
theorem math_bits_LeadingZeros64_s0_bind {R S : Type} (F : R → Option S) (x_0 : Int) (kr0 : Int → Option R) : (math_bits_LeadingZeros64_s0 x_0 kr0).bind F = math_bits_LeadingZeros64_s0 x_0 (fun a0 => (kr0 a0).bind F) := by
  simp only [math_bits_LeadingZeros64_s0, cond_bind, within_bind, none_bind, some_bind, sum_bind, bind_bind]
def math_bits_LeadingZeros64 (x_0 : Int) : Option Int :=
  math_bits_LeadingZeros64_s0 x_0 (fun a0 => some a0)
def math_bits_OnesCount64_s0 {R : Type} (x_0 : Int) (kr0 : Int → Option R) : Option R :=
  (kr0 (ibits .and .i64 (IntKind.i64.wrap (IntKind.u64.wrap ((IntKind.u64.wrap ((IntKind.u64.wrap ((ibits .and .u64 (IntKind.u64.wrap ((Int.fdiv (IntKind.u64.wrap ((ibits .and .u64 (Int.fdiv (IntKind.u64.wrap ((ibits .and .u64 (Int.fdiv x_0 (2 ^ min ((1 : Int)).toNat 64)) (6148914691236517205 : Int)) + (ibits .and .u64 x_0 (6148914691236517205 : Int)))) (2 ^ min ((2 : Int)).toNat 64)) (3689348814741910323 : Int)) + (ibits .and .u64 (IntKind.u64.wrap ((ibits .and .u64 (Int.fdiv x_0 (2 ^ min ((1 : Int)).toNat 64)) (6148914691236517205 : Int)) + (ibits .and .u64 x_0 (6148914691236517205 : Int)))) (3689348814741910323 : Int)))) (2 ^ min ((4 : Int)).toNat 64)) + (IntKind.u64.wrap ((ibits .and .u64 (Int.fdiv (IntKind.u64.wrap ((ibits .and .u64 (Int.fdiv x_0 (2 ^ min ((1 : Int)).toNat 64)) (6148914691236517205 : Int)) + (ibits .and .u64 x_0 (6148914691236517205 : Int)))) (2 ^ min ((2 : Int)).toNat 64)) (3689348814741910323 : Int)) + (ibits .and .u64 (IntKind.u64.wrap ((ibits .and .u64 (Int.fdiv x_0 (2 ^ min ((1 : Int)).toNat 64)) (6148914691236517205 : Int)) + (ibits .and .u64 x_0 (6148914691236517205 : Int)))) (3689348814741910323 : Int)))))) (1085102592571150095 : Int)) + (Int.fdiv (ibits .and .u64 (IntKind.u64.wrap ((Int.fdiv (IntKind.u64.wrap ((ibits .and .u64 (Int.fdiv (IntKind.u64.wrap ((ibits .and .u64 (Int.fdiv x_0 (2 ^ min ((1 : Int)).toNat 64)) (6148914691236517205 : Int)) + (ibits .and .u64 x_0 (6148914691236517205 : Int)))) (2 ^ min ((2 : Int)).toNat 64)) (3689348814741910323 : Int)) + (ibits .and .u64 (IntKind.u64.wrap ((ibits .and .u64 (Int.fdiv x_0 (2 ^ min ((1 : Int)).toNat 64)) (6148914691236517205 : Int)) + (ibits .and .u64 x_0 (6148914691236517205 : Int)))) (3689348814741910323 : Int)))) (2 ^ min ((4 : Int)).toNat 64)) + (IntKind.u64.wrap ((ibits .and .u64 (Int.fdiv (IntKind.u64.wrap ((ibits .and .u64 (Int.fdiv x_0 (2 ^ min ((1 : Int)).toNat 64)) (6148914691236517205 : Int)) + (ibits .and .u64 x_0 (6148914691236517205 : Int)))) (2 ^ min ((2 : Int)).toNat 64)) (3689348814741910323 : Int)) + (ibits .and .u64 (IntKind.u64.wrap ((ibits .and .u64 (Int.fdiv x_0 (2 ^ min ((1 : Int)).toNat 64)) (6148914691236517205 : Int)) + (ibits .and .u64 x_0 (6148914691236517205 : Int)))) (3689348814741910323 : Int)))))) (1085102592571150095 : Int)) (2 ^ min ((8 : Int)).toNat 64)))) + (Int.fdiv (IntKind.u64.wrap ((ibits .and .u64 (IntKind.u64.wrap ((Int.fdiv (IntKind.u64.wrap ((ibits .and .u64 (Int.fdiv (IntKind.u64.wrap ((ibits .and .u64 (Int.fdiv x_0 (2 ^ min ((1 : Int)).toNat 64)) (6148914691236517205 : Int)) + (ibits .and .u64 x_0 (6148914691236517205 : Int)))) (2 ^ min ((2 : Int)).toNat 64)) (3689348814741910323 : Int)) + (ibits .and .u64 (IntKind.u64.wrap ((ibits .and .u64 (Int.fdiv x_0 (2 ^ min ((1 : Int)).toNat 64)) (6148914691236517205 : Int)) + (ibits .and .u64 x_0 (6148914691236517205 : Int)))) (3689348814741910323 : Int)))) (2 ^ min ((4 : Int)).toNat 64)) + (IntKind.u64.wrap ((ibits .and .u64 (Int.fdiv (IntKind.u64.wrap ((ibits .and .u64 (Int.fdiv x_0 (2 ^ min ((1 : Int)).toNat 64)) (6148914691236517205 : Int)) + (ibits .and .u64 x_0 (6148914691236517205 : Int)))) (2 ^ min ((2 : Int)).toNat 64)) (3689348814741910323 : Int)) + (ibits .and .u64 (IntKind.u64.wrap ((ibits .and .u64 (Int.fdiv x_0 (2 ^ min ((1 : Int)).toNat 64)) (6148914691236517205 : Int)) + (ibits .and .u64 x_0 (6148914691236517205 : Int)))) (3689348814741910323 : Int)))))) (1085102592571150095 : Int)) + (Int.fdiv (ibits .and .u64 (IntKind.u64.wrap ((Int.fdiv (IntKind.u64.wrap ((ibits .and .u64 (Int.fdiv (IntKind.u64.wrap ((ibits .and .u64 (Int.fdiv x_0 (2 ^ min ((1 : Int)).toNat 64)) (6148914691236517205 : Int)) + (ibits .and .u64 x_0 (6148914691236517205 : Int)))) (2 ^ min ((2 : Int)).toNat 64)) (3689348814741910323 : Int)) + (ibits .and .u64 (IntKind.u64.wrap ((ibits .and .u64 (Int.fdiv x_0 (2 ^ min ((1 : Int)).toNat 64)) (6148914691236517205 : Int)) + (ibits .and .u64 x_0 (6148914691236517205 : Int)))) (3689348814741910323 : Int)))) (2 ^ min ((4 : Int)).toNat 64)) + (IntKind.u64.wrap ((ibits .and .u64 (Int.fdiv (IntKind.u64.wrap ((ibits .and .u64 (Int.fdiv x_0 (2 ^ min ((1 : Int)).toNat 64)) (6148914691236517205 : Int)) + (ibits .and .u64 x_0 (6148914691236517205 : Int)))) (2 ^ min ((2 : Int)).toNat 64)) (3689348814741910323 : Int)) + (ibits .and .u64 (IntKind.u64.wrap ((ibits .and .u64 (Int.fdiv x_0 (2 ^ min ((1 : Int)).toNat 64)) (6148914691236517205 : Int)) + (ibits .and .u64 x_0 (6148914691236517205 : Int)))) (3689348814741910323 : Int)))))) (1085102592571150095 : Int)) (2 ^ min ((8 : Int)).toNat 64)))) (2 ^ min ((16 : Int)).toNat 64)))) + (Int.fdiv (IntKind.u64.wrap ((IntKind.u64.wrap ((ibits .and .u64 (IntKind.u64.wrap ((Int.fdiv (IntKind.u64.wrap ((ibits .and .u64 (Int.fdiv (IntKind.u64.wrap ((ibits .and .u64 (Int.fdiv x_0 (2 ^ min ((1 : Int)).toNat 64)) (6148914691236517205 : Int)) + (ibits .and .u64 x_0 (6148914691236517205 : Int)))) (2 ^ min ((2 : Int)).toNat 64)) (3689348814741910323 : Int)) + (ibits .and .u64 (IntKind.u64.wrap ((ibits .and .u64 (Int.fdiv x_0 (2 ^ min ((1 : Int)).toNat 64)) (6148914691236517205 : Int)) + (ibits .and .u64 x_0 (6148914691236517205 : Int)))) (3689348814741910323 : Int)))) (2 ^ min ((4 : Int)).toNat 64)) + (IntKind.u64.wrap ((ibits .and .u64 (Int.fdiv (IntKind.u64.wrap ((ibits .and .u64 (Int.fdiv x_0 (2 ^ min ((1 : Int)).toNat 64)) (6148914691236517205 : Int)) + (ibits .and .u64 x_0 (6148914691236517205 : Int)))) (2 ^ min ((2 : Int)).toNat 64)) (3689348814741910323 : Int)) + (ibits .and .u64 (IntKind.u64.wrap ((ibits .and .u64 (Int.fdiv x_0 (2 ^ min ((1 : Int)).toNat 64)) (6148914691236517205 : Int)) + (ibits .and .u64 x_0 (6148914691236517205 : Int)))) (3689348814741910323 : Int)))))) (1085102592571150095 : Int)) + (Int.fdiv (ibits .and .u64 (IntKind.u64.wrap ((Int.fdiv (IntKind.u64.wrap ((ibits .and .u64 (Int.fdiv (IntKind.u64.wrap ((ibits .and .u64 (Int.fdiv x_0 (2 ^ min ((1 : Int)).toNat 64)) (6148914691236517205 : Int)) + (ibits .and .u64 x_0 (6148914691236517205 : Int)))) (2 ^ min ((2 : Int)).toNat 64)) (3689348814741910323 : Int)) + (ibits .and .u64 (IntKind.u64.wrap ((ibits .and .u64 (Int.fdiv x_0 (2 ^ min ((1 : Int)).toNat 64)) (6148914691236517205 : Int)) + (ibits .and .u64 x_0 (6148914691236517205 : Int)))) (3689348814741910323 : Int)))) (2 ^ min ((4 : Int)).toNat 64)) + (IntKind.u64.wrap ((ibits .and .u64 (Int.fdiv (IntKind.u64.wrap ((ibits .and .u64 (Int.fdiv x_0 (2 ^ min ((1 : Int)).toNat 64)) (6148914691236517205 : Int)) + (ibits .and .u64 x_0 (6148914691236517205 : Int)))) (2 ^ min ((2 : Int)).toNat 64)) (3689348814741910323 : Int)) + (ibits .and .u64 (IntKind.u64.wrap ((ibits .and .u64 (Int.fdiv x_0 (2 ^ min ((1 : Int)).toNat 64)) (6148914691236517205 : Int)) + (ibits .and .u64 x_0 (6148914691236517205 : Int)))) (3689348814741910323 : Int)))))) (1085102592571150095 : Int)) (2 ^ min ((8 : Int)).toNat 64)))) + (Int.fdiv (IntKind.u64.wrap ((ibits .and .u64 (IntKind.u64.wrap ((Int.fdiv (IntKind.u64.wrap ((ibits .and .u64 (Int.fdiv (IntKind.u64.wrap ((ibits .and .u64 (Int.fdiv x_0 (2 ^ min ((1 : Int)).toNat 64)) (6148914691236517205 : Int)) + (ibits .and .u64 x_0 (6148914691236517205 : Int)))) (2 ^ min ((2 : Int)).toNat 64)) (3689348814741910323 : Int)) + (ibits .and .u64 (IntKind.u64.wrap ((ibits .and .u64 (Int.fdiv x_0 (2 ^ min ((1 : Int)).toNat 64)) (6148914691236517205 : Int)) + (ibits .and .u64 x_0 (6148914691236517205 : Int)))) (3689348814741910323 : Int)))) (2 ^ min ((4 : Int)).toNat 64)) + (IntKind.u64.wrap ((ibits .and .u64 (Int.fdiv (IntKind.u64.wrap ((ibits .and .u64 (Int.fdiv x_0 (2 ^ min ((1 : Int)).toNat 64)) (6148914691236517205 : Int)) + (ibits .and .u64 x_0 (6148914691236517205 : Int)))) (2 ^ min ((2 : Int)).toNat 64)) (3689348814741910323 : Int)) + (ibits .and .u64 (IntKind.u64.wrap ((ibits .and .u64 (Int.fdiv x_0 (2 ^ min ((1 : Int)).toNat 64)) (6148914691236517205 : Int)) + (ibits .and .u64 x_0 (6148914691236517205 : Int)))) (3689348814741910323 : Int)))))) (1085102592571150095 : Int)) + (Int.fdiv (ibits .and .u64 (IntKind.u64.wrap ((Int.fdiv (IntKind.u64.wrap ((ibits .and .u64 (Int.fdiv (IntKind.u64.wrap ((ibits .and .u64 (Int.fdiv x_0 (2 ^ min ((1 : Int)).toNat 64)) (6148914691236517205 : Int)) + (ibits .and .u64 x_0 (6148914691236517205 : Int)))) (2 ^ min ((2 : Int)).toNat 64)) (3689348814741910323 : Int)) + (ibits .and .u64 (IntKind.u64.wrap ((ibits .and .u64 (Int.fdiv x_0 (2 ^ min ((1 : Int)).toNat 64)) (6148914691236517205 : Int)) + (ibits .and .u64 x_0 (6148914691236517205 : Int)))) (3689348814741910323 : Int)))) (2 ^ min ((4 : Int)).toNat 64)) + (IntKind.u64.wrap ((ibits .and .u64 (Int.fdiv (IntKind.u64.wrap ((ibits .and .u64 (Int.fdiv x_0 (2 ^ min ((1 : Int)).toNat 64)) (6148914691236517205 : Int)) + (ibits .and .u64 x_0 (6148914691236517205 : Int)))) (2 ^ min ((2 : Int)).toNat 64)) (3689348814741910323 : Int)) + (ibits .and .u64 (IntKind.u64.wrap ((ibits .and .u64 (Int.fdiv x_0 (2 ^ min ((1 : Int)).toNat 64)) (6148914691236517205 : Int)) + (ibits .and .u64 x_0 (6148914691236517205 : Int)))) (3689348814741910323 : Int)))))) (1085102592571150095 : Int)) (2 ^ min ((8 : Int)).toNat 64)))) (2 ^ min ((16 : Int)).toNat 64)))) (2 ^ min ((32 : Int)).toNat 64))))) (127 : Int)))
theorem math_bits_OnesCount64_s0_bind {R S : Type} (F : R → Option S) (x_0 : Int) (kr0 : Int → Option R) : (math_bits_OnesCount64_s0 x_0 kr0).bind F = math_bits_OnesCount64_s0 x_0 (fun a0 => (kr0 a0).bind F) := by
  simp only [math_bits_OnesCount64_s0, cond_bind, within_bind, none_bind, some_bind, sum_bind, bind_bind]
def math_bits_OnesCount64 (x_0 : Int) : Option Int :=
  math_bits_OnesCount64_s0 x_0 (fun a0 => some a0)
end Groat

/- The functions of fields as plain Lean. -/
set_option linter.unusedVariables false
set_option linter.unusedSimpArgs false
set_option maxRecDepth 100000
namespace Groat
open Go Go.Ref
def fields_bit_s0 {R : Type} (n_0 : Int) (kr0 : (Int × Int × Unit) → Option R) : Option R :=
  (bif (decide (n_0 < (1 : Int))) then (kr0 ((0 : Int), (0 : Int), ())) else (bif (decide ((128 : Int) < n_0)) then (kr0 ((0 : Int), (0 : Int), ())) else (bif (decide (n_0 ≤ (64 : Int))) then (bif (decide ((IntKind.i64.wrap ((64 : Int) - n_0)) < (0 : Int))) then none else (kr0 ((IntKind.u64.wrap ((1 : Int) * 2 ^ min ((IntKind.i64.wrap ((64 : Int) - n_0))).toNat 64)), (0 : Int), ()))) else (bif (decide ((IntKind.i64.wrap ((128 : Int) - n_0)) < (0 : Int))) then none else (kr0 ((0 : Int), (IntKind.u64.wrap ((1 : Int) * 2 ^ min ((IntKind.i64.wrap ((128 : Int) - n_0))).toNat 64)), ()))))))
theorem fields_bit_s0_bind {R S : Type} (F : R → Option S) (n_0 : Int) (kr0 : (Int × Int × Unit) → Option R) : (fields_bit_s0 n_0 kr0).bind F = fields_bit_s0 n_0 (fun a0 => (kr0 a0).bind F) := by
  simp only [fields_bit_s0, cond_bind, within_bind, none_bind, some_bind, sum_bind, bind_bind]
def fields_bit (n_0 : Int) : Option (Int × Int × Unit) :=
  fields_bit_s0 n_0 (fun a0 => some a0)
def fields_Set_Either_s0 {R : Type} (s_0 : (Int × Int × Unit)) (t_1 : (Int × Int × Unit)) (kr0 : (Int × Int × Unit) → Option R) : Option R :=
  (kr0 ((ibits .or .u64 s_0.1 t_1.1), (ibits .or .u64 s_0.2.1 t_1.2.1), ()))
theorem fields_Set_Either_s0_bind {R S : Type} (F : R → Option S) (s_0 : (Int × Int × Unit)) (t_1 : (Int × Int × Unit)) (kr0 : (Int × Int × Unit) → Option R) : (fields_Set_Either_s0 s_0 t_1 kr0).bind F = fields_Set_Either_s0 s_0 t_1 (fun a0 => (kr0 a0).bind F) := by
  simp only [fields_Set_Either_s0, cond_bind, within_bind, none_bind, some_bind, sum_bind, bind_bind]
def fields_Set_Either (s_0 : (Int × Int × Unit)) (t_1 : (Int × Int × Unit)) : Option (Int × Int × Unit) :=
  fields_Set_Either_s0 s_0 t_1 (fun a0 => some a0)
def fields_Set_With_s0 {R : Type} (s_0 : (Int × Int × Unit)) (n_1 : Int) (kr0 : (Int × Int × Unit) → Option R) : Option R :=
  ((fields_bit n_1).bind fun r1 => ((fields_Set_Either s_0 r1).bind fun r2 => (kr0 r2)))
theorem fields_Set_With_s0_bind {R S : Type} (F : R → Option S) (s_0 : (Int × Int × Unit)) (n_1 : Int) (kr0 : (Int × Int × Unit) → Option R) : (fields_Set_With_s0 s_0 n_1 kr0).bind F = fields_Set_With_s0 s_0 n_1 (fun a0 => (kr0 a0).bind F) := by
  simp only [fields_Set_With_s0, cond_bind, within_bind, none_bind, some_bind, sum_bind, bind_bind]
def fields_Set_With (s_0 : (Int × Int × Unit)) (n_1 : Int) : Option (Int × Int × Unit) :=
  fields_Set_With_s0 s_0 n_1 (fun a0 => some a0)
def fields_Of_s0 {R : Type} (n_0 : (List Int)) (go0 : (List Int) → Int → Int → (Int × Int × Unit) → (Int × Int × Unit) → Option R) : Option R :=
  (go0 n_0 ((List.length n_0) : Int) (0 : Int) ((0 : Int), (0 : Int), ()) ((0 : Int), (0 : Int), ()))
theorem fields_Of_s0_bind {R S : Type} (F : R → Option S) (n_0 : (List Int)) (go0 : (List Int) → Int → Int → (Int × Int × Unit) → (Int × Int × Unit) → Option R) : (fields_Of_s0 n_0 go0).bind F = fields_Of_s0 n_0 (fun a0 a1 a2 a3 a4 => (go0 a0 a1 a2 a3 a4).bind F) := by
  simp only [fields_Of_s0, cond_bind, within_bind, none_bind, some_bind, sum_bind, bind_bind]
def fields_Of_s1 {R : Type} (t6 : (List Int)) (t7 : Int) (t8 : Int) (bt2 : (Int × Int × Unit)) (bt3 : (Int × Int × Unit)) (nx0 : (List Int) → Int → Int → (Int × Int × Unit) → (Int × Int × Unit) → Option R) (ex0_0 : (Int × Int × Unit) → (Int × Int × Unit) → Option R) : Option R :=
  (bif (decide (t8 < t7)) then (within t8 (List.length t6) ((fields_Set_With bt3 (List.getD t6 (t8).toNat (0 : Int))).bind fun r1 => (nx0 t6 t7 (IntKind.i64.wrap (t8 + (1 : Int))) bt2 r1))) else (ex0_0 bt2 bt3))
theorem fields_Of_s1_bind {R S : Type} (F : R → Option S) (t6 : (List Int)) (t7 : Int) (t8 : Int) (bt2 : (Int × Int × Unit)) (bt3 : (Int × Int × Unit)) (nx0 : (List Int) → Int → Int → (Int × Int × Unit) → (Int × Int × Unit) → Option R) (ex0_0 : (Int × Int × Unit) → (Int × Int × Unit) → Option R) : (fields_Of_s1 t6 t7 t8 bt2 bt3 nx0 ex0_0).bind F = fields_Of_s1 t6 t7 t8 bt2 bt3 (fun a0 a1 a2 a3 a4 => (nx0 a0 a1 a2 a3 a4).bind F) (fun a0 a1 => (ex0_0 a0 a1).bind F) := by
  simp only [fields_Of_s1, cond_bind, within_bind, none_bind, some_bind, sum_bind, bind_bind]
def fields_Of_s2 {R : Type} (bt2 : (Int × Int × Unit)) (bt3 : (Int × Int × Unit)) (kr0 : (Int × Int × Unit) → Option R) : Option R :=
  (kr0 bt3)
theorem fields_Of_s2_bind {R S : Type} (F : R → Option S) (bt2 : (Int × Int × Unit)) (bt3 : (Int × Int × Unit)) (kr0 : (Int × Int × Unit) → Option R) : (fields_Of_s2 bt2 bt3 kr0).bind F = fields_Of_s2 bt2 bt3 (fun a0 => (kr0 a0).bind F) := by
  simp only [fields_Of_s2, cond_bind, within_bind, none_bind, some_bind, sum_bind, bind_bind]
def fields_Of_l0 : Nat → (List Int) → Int → Int → (Int × Int × Unit) → (Int × Int × Unit) → Option ((Int × Int × Unit) × (Int × Int × Unit))
  | 0, _, _, _, _, _ => none
  | k + 1, v0, v1, v2, v3, v4 => fields_Of_s1 v0 v1 v2 v3 v4 (fun a0 a1 a2 a3 a4 => fields_Of_l0 k a0 a1 a2 a3 a4) (fun a0 a1 => some (a0, a1))
def fields_Of (n_0 : (List Int)) : Option (Int × Int × Unit) :=
  fields_Of_s0 n_0 (fun a0 a1 a2 a3 a4 => (fields_Of_l0 FUEL a0 a1 a2 a3 a4).bind fun e => fields_Of_s2 e.1 e.2 (fun a0 => some a0))
def fields_Set_Halves_s0 {R : Type} (s_0 : (Int × Int × Unit)) (kr0 : Int → Int → Option R) : Option R :=
  (kr0 s_0.1 s_0.2.1)
theorem fields_Set_Halves_s0_bind {R S : Type} (F : R → Option S) (s_0 : (Int × Int × Unit)) (kr0 : Int → Int → Option R) : (fields_Set_Halves_s0 s_0 kr0).bind F = fields_Set_Halves_s0 s_0 (fun a0 a1 => (kr0 a0 a1).bind F) := by
  simp only [fields_Set_Halves_s0, cond_bind, within_bind, none_bind, some_bind, sum_bind, bind_bind]
def fields_Set_Halves (s_0 : (Int × Int × Unit)) : Option (Int × Int) :=
  fields_Set_Halves_s0 s_0 (fun a0 a1 => some (a0, a1))
def fields_Set_Next_s0 {R : Type} (s_0 : (Int × Int × Unit)) (n_1 : Int) (kr0 : Int → Option R) : Option R :=
  (bif (decide ((if n_1 < (0 : Int) then (0 : Int) else n_1) < (64 : Int))) then (bif (decide ((if n_1 < (0 : Int) then (0 : Int) else n_1) < (0 : Int))) then none else (bif (!(decide ((IntKind.u64.wrap (s_0.1 * 2 ^ min ((if n_1 < (0 : Int) then (0 : Int) else n_1)).toNat 64)) = (0 : Int)))) then ((math_bits_LeadingZeros64 (IntKind.u64.wrap (s_0.1 * 2 ^ min ((if n_1 < (0 : Int) then (0 : Int) else n_1)).toNat 64))).bind fun r1 => (kr0 (IntKind.i64.wrap ((IntKind.i64.wrap ((if n_1 < (0 : Int) then (0 : Int) else n_1) + r1)) + (1 : Int))))) else (bif (decide ((if (64 : Int) < (IntKind.i64.wrap ((64 : Int) - (64 : Int))) then (64 : Int) else (IntKind.i64.wrap ((64 : Int) - (64 : Int)))) < (0 : Int))) then none else (bif (!(decide ((IntKind.u64.wrap (s_0.2.1 * 2 ^ min ((if (64 : Int) < (IntKind.i64.wrap ((64 : Int) - (64 : Int))) then (64 : Int) else (IntKind.i64.wrap ((64 : Int) - (64 : Int))))).toNat 64)) = (0 : Int)))) then ((math_bits_LeadingZeros64 (IntKind.u64.wrap (s_0.2.1 * 2 ^ min ((if (64 : Int) < (IntKind.i64.wrap ((64 : Int) - (64 : Int))) then (64 : Int) else (IntKind.i64.wrap ((64 : Int) - (64 : Int))))).toNat 64))).bind fun r2 => (kr0 (IntKind.i64.wrap ((IntKind.i64.wrap ((64 : Int) + r2)) + (1 : Int))))) else (kr0 (0 : Int)))))) else (bif (decide ((if (64 : Int) < (IntKind.i64.wrap ((if n_1 < (0 : Int) then (0 : Int) else n_1) - (64 : Int))) then (64 : Int) else (IntKind.i64.wrap ((if n_1 < (0 : Int) then (0 : Int) else n_1) - (64 : Int)))) < (0 : Int))) then none else (bif (!(decide ((IntKind.u64.wrap (s_0.2.1 * 2 ^ min ((if (64 : Int) < (IntKind.i64.wrap ((if n_1 < (0 : Int) then (0 : Int) else n_1) - (64 : Int))) then (64 : Int) else (IntKind.i64.wrap ((if n_1 < (0 : Int) then (0 : Int) else n_1) - (64 : Int))))).toNat 64)) = (0 : Int)))) then ((math_bits_LeadingZeros64 (IntKind.u64.wrap (s_0.2.1 * 2 ^ min ((if (64 : Int) < (IntKind.i64.wrap ((if n_1 < (0 : Int) then (0 : Int) else n_1) - (64 : Int))) then (64 : Int) else (IntKind.i64.wrap ((if n_1 < (0 : Int) then (0 : Int) else n_1) - (64 : Int))))).toNat 64))).bind fun r3 => (kr0 (IntKind.i64.wrap ((IntKind.i64.wrap ((if n_1 < (0 : Int) then (0 : Int) else n_1) + r3)) + (1 : Int))))) else (kr0 (0 : Int)))))
theorem fields_Set_Next_s0_bind {R S : Type} (F : R → Option S) (s_0 : (Int × Int × Unit)) (n_1 : Int) (kr0 : Int → Option R) : (fields_Set_Next_s0 s_0 n_1 kr0).bind F = fields_Set_Next_s0 s_0 n_1 (fun a0 => (kr0 a0).bind F) := by
  simp only [fields_Set_Next_s0, cond_bind, within_bind, none_bind, some_bind, sum_bind, bind_bind]
def fields_Set_Next (s_0 : (Int × Int × Unit)) (n_1 : Int) : Option Int :=
  fields_Set_Next_s0 s_0 n_1 (fun a0 => some a0)
def fields_Set_Both_s0 {R : Type} (s_0 : (Int × Int × Unit)) (t_1 : (Int × Int × Unit)) (kr0 : (Int × Int × Unit) → Option R) : Option R :=
  (kr0 ((ibits .and .u64 s_0.1 t_1.1), (ibits .and .u64 s_0.2.1 t_1.2.1), ()))
theorem fields_Set_Both_s0_bind {R S : Type} (F : R → Option S) (s_0 : (Int × Int × Unit)) (t_1 : (Int × Int × Unit)) (kr0 : (Int × Int × Unit) → Option R) : (fields_Set_Both_s0 s_0 t_1 kr0).bind F = fields_Set_Both_s0 s_0 t_1 (fun a0 => (kr0 a0).bind F) := by
  simp only [fields_Set_Both_s0, cond_bind, within_bind, none_bind, some_bind, sum_bind, bind_bind]
def fields_Set_Both (s_0 : (Int × Int × Unit)) (t_1 : (Int × Int × Unit)) : Option (Int × Int × Unit) :=
  fields_Set_Both_s0 s_0 t_1 (fun a0 => some a0)
def fields_Set_Has_s0 {R : Type} (s_0 : (Int × Int × Unit)) (n_1 : Int) (kr0 : Bool → Option R) : Option R :=
  ((fields_bit n_1).bind fun r1 => ((fields_Set_Both s_0 r1).bind fun r2 => (kr0 (!((decide (r2.1 = (0 : Int))) && ((decide (r2.2.1 = (0 : Int))) && true))))))
theorem fields_Set_Has_s0_bind {R S : Type} (F : R → Option S) (s_0 : (Int × Int × Unit)) (n_1 : Int) (kr0 : Bool → Option R) : (fields_Set_Has_s0 s_0 n_1 kr0).bind F = fields_Set_Has_s0 s_0 n_1 (fun a0 => (kr0 a0).bind F) := by
  simp only [fields_Set_Has_s0, cond_bind, within_bind, none_bind, some_bind, sum_bind, bind_bind]
def fields_Set_Has (s_0 : (Int × Int × Unit)) (n_1 : Int) : Option Bool :=
  fields_Set_Has_s0 s_0 n_1 (fun a0 => some a0)
def fields_Set_Len_s0 {R : Type} (s_0 : (Int × Int × Unit)) (kr0 : Int → Option R) : Option R :=
  ((math_bits_OnesCount64 s_0.1).bind fun r1 => ((math_bits_OnesCount64 s_0.2.1).bind fun r2 => (kr0 (IntKind.i64.wrap (r1 + r2)))))
theorem fields_Set_Len_s0_bind {R S : Type} (F : R → Option S) (s_0 : (Int × Int × Unit)) (kr0 : Int → Option R) : (fields_Set_Len_s0 s_0 kr0).bind F = fields_Set_Len_s0 s_0 (fun a0 => (kr0 a0).bind F) := by
  simp only [fields_Set_Len_s0, cond_bind, within_bind, none_bind, some_bind, sum_bind, bind_bind]
def fields_Set_Len (s_0 : (Int × Int × Unit)) : Option Int :=
  fields_Set_Len_s0 s_0 (fun a0 => some a0)
def fields_Set_Without_s0 {R : Type} (s_0 : (Int × Int × Unit)) (n_1 : Int) (kr0 : (Int × Int × Unit) → Option R) : Option R :=
  ((fields_bit n_1).bind fun r1 => (kr0 ((ibits .andNot .u64 s_0.1 r1.1), (ibits .andNot .u64 s_0.2.1 r1.2.1), ())))
theorem fields_Set_Without_s0_bind {R S : Type} (F : R → Option S) (s_0 : (Int × Int × Unit)) (n_1 : Int) (kr0 : (Int × Int × Unit) → Option R) : (fields_Set_Without_s0 s_0 n_1 kr0).bind F = fields_Set_Without_s0 s_0 n_1 (fun a0 => (kr0 a0).bind F) := by
  simp only [fields_Set_Without_s0, cond_bind, within_bind, none_bind, some_bind, sum_bind, bind_bind]
def fields_Set_Without (s_0 : (Int × Int × Unit)) (n_1 : Int) : Option (Int × Int × Unit) :=
  fields_Set_Without_s0 s_0 n_1 (fun a0 => some a0)
def fields_Bits_s0 {R : Type} (high_0 : Int) (low_1 : Int) (kr0 : (Int × Int × Unit) → Option R) : Option R :=
  (kr0 (high_0, low_1, ()))
theorem fields_Bits_s0_bind {R S : Type} (F : R → Option S) (high_0 : Int) (low_1 : Int) (kr0 : (Int × Int × Unit) → Option R) : (fields_Bits_s0 high_0 low_1 kr0).bind F = fields_Bits_s0 high_0 low_1 (fun a0 => (kr0 a0).bind F) := by
  simp only [fields_Bits_s0, cond_bind, within_bind, none_bind, some_bind, sum_bind, bind_bind]
def fields_Bits (high_0 : Int) (low_1 : Int) : Option (Int × Int × Unit) :=
  fields_Bits_s0 high_0 low_1 (fun a0 => some a0)
end Groat

/- The functions of groatref05 as plain Lean. -/
set_option linter.unusedVariables false
set_option linter.unusedSimpArgs false
set_option maxRecDepth 100000
namespace Groat
open Go Go.Ref
def groatref05_In_s0 {R : Type} (l_0 : (List Int)) (n_1 : Int) (go0 : (List Int) → Int → Int → Option R) : Option R :=
  (go0 l_0 n_1 (0 : Int))
theorem groatref05_In_s0_bind {R S : Type} (F : R → Option S) (l_0 : (List Int)) (n_1 : Int) (go0 : (List Int) → Int → Int → Option R) : (groatref05_In_s0 l_0 n_1 go0).bind F = groatref05_In_s0 l_0 n_1 (fun a0 a1 a2 => (go0 a0 a1 a2).bind F) := by
  simp only [groatref05_In_s0, cond_bind, within_bind, none_bind, some_bind, sum_bind, bind_bind]
def groatref05_In_s1 {R : Type} (l_0 : (List Int)) (n_1 : Int) (t5 : Int) (ex0_0 : Bool → Option R) (nx0 : (List Int) → Int → Int → Option R) (ex0_1 : Option R) : Option R :=
  (bif (decide (t5 < ((List.length l_0) : Int))) then (within t5 (List.length l_0) (bif (decide ((List.getD l_0 (t5).toNat (0 : Int)) = n_1)) then (ex0_0 true) else (nx0 l_0 n_1 (IntKind.i64.wrap (t5 + (1 : Int)))))) else (ex0_1))
theorem groatref05_In_s1_bind {R S : Type} (F : R → Option S) (l_0 : (List Int)) (n_1 : Int) (t5 : Int) (ex0_0 : Bool → Option R) (nx0 : (List Int) → Int → Int → Option R) (ex0_1 : Option R) : (groatref05_In_s1 l_0 n_1 t5 ex0_0 nx0 ex0_1).bind F = groatref05_In_s1 l_0 n_1 t5 (fun a0 => (ex0_0 a0).bind F) (fun a0 a1 a2 => (nx0 a0 a1 a2).bind F) ((ex0_1).bind F) := by
  simp only [groatref05_In_s1, cond_bind, within_bind, none_bind, some_bind, sum_bind, bind_bind]
def groatref05_In_s2 {R : Type} (t4 : Bool) (kr0 : Bool → Option R) : Option R :=
  (kr0 t4)
theorem groatref05_In_s2_bind {R S : Type} (F : R → Option S) (t4 : Bool) (kr0 : Bool → Option R) : (groatref05_In_s2 t4 kr0).bind F = groatref05_In_s2 t4 (fun a0 => (kr0 a0).bind F) := by
  simp only [groatref05_In_s2, cond_bind, within_bind, none_bind, some_bind, sum_bind, bind_bind]
def groatref05_In_s3 {R : Type}  (kr0 : Bool → Option R) : Option R :=
  (kr0 false)
theorem groatref05_In_s3_bind {R S : Type} (F : R → Option S)  (kr0 : Bool → Option R) : (groatref05_In_s3 kr0).bind F = groatref05_In_s3 (fun a0 => (kr0 a0).bind F) := by
  simp only [groatref05_In_s3, cond_bind, within_bind, none_bind, some_bind, sum_bind, bind_bind]
def groatref05_In_l0 : Nat → (List Int) → Int → Int → Option (Sum Bool Unit)
  | 0, _, _, _ => none
  | k + 1, v0, v1, v2 => groatref05_In_s1 v0 v1 v2 (fun a0 => some (.inl a0)) (fun a0 a1 a2 => groatref05_In_l0 k a0 a1 a2) (some (.inr ()))
def groatref05_In (l_0 : (List Int)) (n_1 : Int) : Option Bool :=
  groatref05_In_s0 l_0 n_1 (fun a0 a1 a2 => (groatref05_In_l0 FUEL a0 a1 a2).bind fun e => (Sum.elim (fun (we : Bool) => groatref05_In_s2 we (fun a0 => some a0)) (fun (we : Unit) => groatref05_In_s3 (fun a0 => some a0)) e))
def groatref05_Halves_s0 {R : Type} (l_0 : (List Int)) (go0 : (List Int) → Int → Int → Int → Option R) : Option R :=
  (go0 l_0 (0 : Int) (0 : Int) (1 : Int))
theorem groatref05_Halves_s0_bind {R S : Type} (F : R → Option S) (l_0 : (List Int)) (go0 : (List Int) → Int → Int → Int → Option R) : (groatref05_Halves_s0 l_0 go0).bind F = groatref05_Halves_s0 l_0 (fun a0 a1 a2 a3 => (go0 a0 a1 a2 a3).bind F) := by
  simp only [groatref05_Halves_s0, cond_bind, within_bind, none_bind, some_bind, sum_bind, bind_bind]
def groatref05_Halves_s1 {R : Type} (l_0 : (List Int)) (t4 : Int) (t5 : Int) (t6 : Int) (nx0 : (List Int) → Int → Int → Int → Option R) (ex0_0 : Int → Int → Option R) : Option R :=
  (bif (decide (t6 ≤ (128 : Int))) then (bif (decide (t6 ≤ (64 : Int))) then ((groatref05_In l_0 t6).bind fun r1 => (bif r1 then (nx0 l_0 (IntKind.u64.wrap ((IntKind.u64.wrap (t4 * (2 : Int))) + (1 : Int))) t5 (IntKind.i64.wrap (t6 + (1 : Int)))) else (nx0 l_0 (IntKind.u64.wrap (t4 * (2 : Int))) t5 (IntKind.i64.wrap (t6 + (1 : Int)))))) else ((groatref05_In l_0 t6).bind fun r2 => (bif r2 then (nx0 l_0 t4 (IntKind.u64.wrap ((IntKind.u64.wrap (t5 * (2 : Int))) + (1 : Int))) (IntKind.i64.wrap (t6 + (1 : Int)))) else (nx0 l_0 t4 (IntKind.u64.wrap (t5 * (2 : Int))) (IntKind.i64.wrap (t6 + (1 : Int))))))) else (ex0_0 t4 t5))
theorem groatref05_Halves_s1_bind {R S : Type} (F : R → Option S) (l_0 : (List Int)) (t4 : Int) (t5 : Int) (t6 : Int) (nx0 : (List Int) → Int → Int → Int → Option R) (ex0_0 : Int → Int → Option R) : (groatref05_Halves_s1 l_0 t4 t5 t6 nx0 ex0_0).bind F = groatref05_Halves_s1 l_0 t4 t5 t6 (fun a0 a1 a2 a3 => (nx0 a0 a1 a2 a3).bind F) (fun a0 a1 => (ex0_0 a0 a1).bind F) := by
  simp only [groatref05_Halves_s1, cond_bind, within_bind, none_bind, some_bind, sum_bind, bind_bind]
def groatref05_Halves_s2 {R : Type} (t4 : Int) (t5 : Int) (kr0 : Int → Int → Option R) : Option R :=
  (kr0 t4 t5)
theorem groatref05_Halves_s2_bind {R S : Type} (F : R → Option S) (t4 : Int) (t5 : Int) (kr0 : Int → Int → Option R) : (groatref05_Halves_s2 t4 t5 kr0).bind F = groatref05_Halves_s2 t4 t5 (fun a0 a1 => (kr0 a0 a1).bind F) := by
  simp only [groatref05_Halves_s2, cond_bind, within_bind, none_bind, some_bind, sum_bind, bind_bind]
def groatref05_Halves_l0 : Nat → (List Int) → Int → Int → Int → Option (Int × Int)
  | 0, _, _, _, _ => none
  | k + 1, v0, v1, v2, v3 => groatref05_Halves_s1 v0 v1 v2 v3 (fun a0 a1 a2 a3 => groatref05_Halves_l0 k a0 a1 a2 a3) (fun a0 a1 => some (a0, a1))
def groatref05_Halves (l_0 : (List Int)) : Option (Int × Int) :=
  groatref05_Halves_s0 l_0 (fun a0 a1 a2 a3 => (groatref05_Halves_l0 FUEL a0 a1 a2 a3).bind fun e => groatref05_Halves_s2 e.1 e.2 (fun a0 a1 => some (a0, a1)))
def groatref05_Has_s0 {R : Type} (high_0 : Int) (low_1 : Int) (n_2 : Int) (kr0 : Bool → Option R) (go0 : Int → Int → Int → Option R) : Option R :=
  (bif (decide (n_2 < (1 : Int))) then (kr0 false) else (bif (decide ((128 : Int) < n_2)) then (kr0 false) else (bif (decide ((64 : Int) < n_2)) then (go0 low_1 (IntKind.i64.wrap ((128 : Int) - n_2)) (0 : Int)) else (go0 high_0 (IntKind.i64.wrap ((64 : Int) - n_2)) (0 : Int)))))
theorem groatref05_Has_s0_bind {R S : Type} (F : R → Option S) (high_0 : Int) (low_1 : Int) (n_2 : Int) (kr0 : Bool → Option R) (go0 : Int → Int → Int → Option R) : (groatref05_Has_s0 high_0 low_1 n_2 kr0 go0).bind F = groatref05_Has_s0 high_0 low_1 n_2 (fun a0 => (kr0 a0).bind F) (fun a0 a1 a2 => (go0 a0 a1 a2).bind F) := by
  simp only [groatref05_Has_s0, cond_bind, within_bind, none_bind, some_bind, sum_bind, bind_bind]
def groatref05_Has_s1 {R : Type} (t7 : Int) (t8 : Int) (t9 : Int) (nx0 : Int → Int → Int → Option R) (ex0_0 : Int → Option R) : Option R :=
  (bif (decide (t9 < t8)) then (nx0 (IntKind.u64.wrap (Int.tdiv t7 (2 : Int))) t8 (IntKind.i64.wrap (t9 + (1 : Int)))) else (ex0_0 t7))
theorem groatref05_Has_s1_bind {R S : Type} (F : R → Option S) (t7 : Int) (t8 : Int) (t9 : Int) (nx0 : Int → Int → Int → Option R) (ex0_0 : Int → Option R) : (groatref05_Has_s1 t7 t8 t9 nx0 ex0_0).bind F = groatref05_Has_s1 t7 t8 t9 (fun a0 a1 a2 => (nx0 a0 a1 a2).bind F) (fun a0 => (ex0_0 a0).bind F) := by
  simp only [groatref05_Has_s1, cond_bind, within_bind, none_bind, some_bind, sum_bind, bind_bind]
def groatref05_Has_s2 {R : Type} (t7 : Int) (kr0 : Bool → Option R) : Option R :=
  (kr0 (decide ((Int.tmod t7 (2 : Int)) = (1 : Int))))
theorem groatref05_Has_s2_bind {R S : Type} (F : R → Option S) (t7 : Int) (kr0 : Bool → Option R) : (groatref05_Has_s2 t7 kr0).bind F = groatref05_Has_s2 t7 (fun a0 => (kr0 a0).bind F) := by
  simp only [groatref05_Has_s2, cond_bind, within_bind, none_bind, some_bind, sum_bind, bind_bind]
def groatref05_Has_l0 : Nat → Int → Int → Int → Option Int
  | 0, _, _, _ => none
  | k + 1, v0, v1, v2 => groatref05_Has_s1 v0 v1 v2 (fun a0 a1 a2 => groatref05_Has_l0 k a0 a1 a2) (fun a0 => some a0)
def groatref05_Has (high_0 : Int) (low_1 : Int) (n_2 : Int) : Option Bool :=
  groatref05_Has_s0 high_0 low_1 n_2 (fun a0 => some a0) (fun a0 a1 a2 => (groatref05_Has_l0 FUEL a0 a1 a2).bind fun e => groatref05_Has_s2 e (fun a0 => some a0))
def groatref05_List_s0 {R : Type} (high_0 : Int) (low_1 : Int) (go0 : Int → Int → (List Int) → Int → Option R) : Option R :=
  (go0 high_0 low_1 ([] : List Int) (1 : Int))
theorem groatref05_List_s0_bind {R S : Type} (F : R → Option S) (high_0 : Int) (low_1 : Int) (go0 : Int → Int → (List Int) → Int → Option R) : (groatref05_List_s0 high_0 low_1 go0).bind F = groatref05_List_s0 high_0 low_1 (fun a0 a1 a2 a3 => (go0 a0 a1 a2 a3).bind F) := by
  simp only [groatref05_List_s0, cond_bind, within_bind, none_bind, some_bind, sum_bind, bind_bind]
def groatref05_List_s1 {R : Type} (high_0 : Int) (low_1 : Int) (t5 : (List Int)) (t6 : Int) (nx0 : Int → Int → (List Int) → Int → Option R) (ex0_0 : (List Int) → Option R) : Option R :=
  (bif (decide (t6 ≤ (128 : Int))) then ((groatref05_Has high_0 low_1 t6).bind fun r1 => (bif r1 then (bif (decide (((List.length t5) + (List.length ([t6] : List Int))) * 8 ≤ 140737488355328)) then (nx0 high_0 low_1 (t5 ++ ([t6] : List Int)) (IntKind.i64.wrap (t6 + (1 : Int)))) else none) else (nx0 high_0 low_1 t5 (IntKind.i64.wrap (t6 + (1 : Int)))))) else (ex0_0 t5))
theorem groatref05_List_s1_bind {R S : Type} (F : R → Option S) (high_0 : Int) (low_1 : Int) (t5 : (List Int)) (t6 : Int) (nx0 : Int → Int → (List Int) → Int → Option R) (ex0_0 : (List Int) → Option R) : (groatref05_List_s1 high_0 low_1 t5 t6 nx0 ex0_0).bind F = groatref05_List_s1 high_0 low_1 t5 t6 (fun a0 a1 a2 a3 => (nx0 a0 a1 a2 a3).bind F) (fun a0 => (ex0_0 a0).bind F) := by
  simp only [groatref05_List_s1, cond_bind, within_bind, none_bind, some_bind, sum_bind, bind_bind]
def groatref05_List_s2 {R : Type} (t5 : (List Int)) (kr0 : (List Int) → Option R) : Option R :=
  (kr0 t5)
theorem groatref05_List_s2_bind {R S : Type} (F : R → Option S) (t5 : (List Int)) (kr0 : (List Int) → Option R) : (groatref05_List_s2 t5 kr0).bind F = groatref05_List_s2 t5 (fun a0 => (kr0 a0).bind F) := by
  simp only [groatref05_List_s2, cond_bind, within_bind, none_bind, some_bind, sum_bind, bind_bind]
def groatref05_List_l0 : Nat → Int → Int → (List Int) → Int → Option (List Int)
  | 0, _, _, _, _ => none
  | k + 1, v0, v1, v2, v3 => groatref05_List_s1 v0 v1 v2 v3 (fun a0 a1 a2 a3 => groatref05_List_l0 k a0 a1 a2 a3) (fun a0 => some a0)
def groatref05_List (high_0 : Int) (low_1 : Int) : Option (List Int) :=
  groatref05_List_s0 high_0 low_1 (fun a0 a1 a2 a3 => (groatref05_List_l0 FUEL a0 a1 a2 a3).bind fun e => groatref05_List_s2 e (fun a0 => some a0))
def groatref05_Next_s0 {R : Type} (high_0 : Int) (low_1 : Int) (n_2 : Int) (go0 : Int → Int → Int → Int → Option R) : Option R :=
  (go0 high_0 low_1 n_2 (1 : Int))
theorem groatref05_Next_s0_bind {R S : Type} (F : R → Option S) (high_0 : Int) (low_1 : Int) (n_2 : Int) (go0 : Int → Int → Int → Int → Option R) : (groatref05_Next_s0 high_0 low_1 n_2 go0).bind F = groatref05_Next_s0 high_0 low_1 n_2 (fun a0 a1 a2 a3 => (go0 a0 a1 a2 a3).bind F) := by
  simp only [groatref05_Next_s0, cond_bind, within_bind, none_bind, some_bind, sum_bind, bind_bind]
def groatref05_Next_s1 {R : Type} (high_0 : Int) (low_1 : Int) (n_2 : Int) (t7 : Int) (ex0_0 : Int → Option R) (nx0 : Int → Int → Int → Int → Option R) (ex0_1 : Option R) : Option R :=
  (bif (decide (t7 ≤ (128 : Int))) then (bif (decide (n_2 < t7)) then ((groatref05_Has high_0 low_1 t7).bind fun r1 => (bif r1 then (ex0_0 t7) else (nx0 high_0 low_1 n_2 (IntKind.i64.wrap (t7 + (1 : Int)))))) else (nx0 high_0 low_1 n_2 (IntKind.i64.wrap (t7 + (1 : Int))))) else (ex0_1))
theorem groatref05_Next_s1_bind {R S : Type} (F : R → Option S) (high_0 : Int) (low_1 : Int) (n_2 : Int) (t7 : Int) (ex0_0 : Int → Option R) (nx0 : Int → Int → Int → Int → Option R) (ex0_1 : Option R) : (groatref05_Next_s1 high_0 low_1 n_2 t7 ex0_0 nx0 ex0_1).bind F = groatref05_Next_s1 high_0 low_1 n_2 t7 (fun a0 => (ex0_0 a0).bind F) (fun a0 a1 a2 a3 => (nx0 a0 a1 a2 a3).bind F) ((ex0_1).bind F) := by
  simp only [groatref05_Next_s1, cond_bind, within_bind, none_bind, some_bind, sum_bind, bind_bind]
def groatref05_Next_s2 {R : Type} (t6 : Int) (kr0 : Int → Option R) : Option R :=
  (kr0 t6)
theorem groatref05_Next_s2_bind {R S : Type} (F : R → Option S) (t6 : Int) (kr0 : Int → Option R) : (groatref05_Next_s2 t6 kr0).bind F = groatref05_Next_s2 t6 (fun a0 => (kr0 a0).bind F) := by
  simp only [groatref05_Next_s2, cond_bind, within_bind, none_bind, some_bind, sum_bind, bind_bind]
def groatref05_Next_s3 {R : Type}  (kr0 : Int → Option R) : Option R :=
  (kr0 (0 : Int))
theorem groatref05_Next_s3_bind {R S : Type} (F : R → Option S)  (kr0 : Int → Option R) : (groatref05_Next_s3 kr0).bind F = groatref05_Next_s3 (fun a0 => (kr0 a0).bind F) := by
  simp only [groatref05_Next_s3, cond_bind, within_bind, none_bind, some_bind, sum_bind, bind_bind]
def groatref05_Next_l0 : Nat → Int → Int → Int → Int → Option (Sum Int Unit)
  | 0, _, _, _, _ => none
  | k + 1, v0, v1, v2, v3 => groatref05_Next_s1 v0 v1 v2 v3 (fun a0 => some (.inl a0)) (fun a0 a1 a2 a3 => groatref05_Next_l0 k a0 a1 a2 a3) (some (.inr ()))
def groatref05_Next (high_0 : Int) (low_1 : Int) (n_2 : Int) : Option Int :=
  groatref05_Next_s0 high_0 low_1 n_2 (fun a0 a1 a2 a3 => (groatref05_Next_l0 FUEL a0 a1 a2 a3).bind fun e => (Sum.elim (fun (we : Int) => groatref05_Next_s2 we (fun a0 => some a0)) (fun (we : Unit) => groatref05_Next_s3 (fun a0 => some a0)) e))
def groatref05_Same_s0 {R : Type} (a_0 : (List Int)) (b_1 : (List Int)) (kr0 : Bool → Option R) (go0 : (List Int) → (List Int) → Int → Option R) : Option R :=
  (bif (!(decide (((List.length a_0) : Int) = ((List.length b_1) : Int)))) then (kr0 false) else (go0 a_0 b_1 (0 : Int)))
theorem groatref05_Same_s0_bind {R S : Type} (F : R → Option S) (a_0 : (List Int)) (b_1 : (List Int)) (kr0 : Bool → Option R) (go0 : (List Int) → (List Int) → Int → Option R) : (groatref05_Same_s0 a_0 b_1 kr0 go0).bind F = groatref05_Same_s0 a_0 b_1 (fun a0 => (kr0 a0).bind F) (fun a0 a1 a2 => (go0 a0 a1 a2).bind F) := by
  simp only [groatref05_Same_s0, cond_bind, within_bind, none_bind, some_bind, sum_bind, bind_bind]
def groatref05_Same_s1 {R : Type} (a_0 : (List Int)) (b_1 : (List Int)) (t5 : Int) (ex0_0 : Bool → Option R) (nx0 : (List Int) → (List Int) → Int → Option R) (ex0_1 : Option R) : Option R :=
  (bif (decide (t5 < ((List.length a_0) : Int))) then (within t5 (List.length a_0) (within t5 (List.length b_1) (bif (!(decide ((List.getD a_0 (t5).toNat (0 : Int)) = (List.getD b_1 (t5).toNat (0 : Int))))) then (ex0_0 false) else (nx0 a_0 b_1 (IntKind.i64.wrap (t5 + (1 : Int))))))) else (ex0_1))
theorem groatref05_Same_s1_bind {R S : Type} (F : R → Option S) (a_0 : (List Int)) (b_1 : (List Int)) (t5 : Int) (ex0_0 : Bool → Option R) (nx0 : (List Int) → (List Int) → Int → Option R) (ex0_1 : Option R) : (groatref05_Same_s1 a_0 b_1 t5 ex0_0 nx0 ex0_1).bind F = groatref05_Same_s1 a_0 b_1 t5 (fun a0 => (ex0_0 a0).bind F) (fun a0 a1 a2 => (nx0 a0 a1 a2).bind F) ((ex0_1).bind F) := by
  simp only [groatref05_Same_s1, cond_bind, within_bind, none_bind, some_bind, sum_bind, bind_bind]
def groatref05_Same_s2 {R : Type} (t4 : Bool) (kr0 : Bool → Option R) : Option R :=
  (kr0 t4)
theorem groatref05_Same_s2_bind {R S : Type} (F : R → Option S) (t4 : Bool) (kr0 : Bool → Option R) : (groatref05_Same_s2 t4 kr0).bind F = groatref05_Same_s2 t4 (fun a0 => (kr0 a0).bind F) := by
  simp only [groatref05_Same_s2, cond_bind, within_bind, none_bind, some_bind, sum_bind, bind_bind]
def groatref05_Same_s3 {R : Type}  (kr0 : Bool → Option R) : Option R :=
  (kr0 true)
theorem groatref05_Same_s3_bind {R S : Type} (F : R → Option S)  (kr0 : Bool → Option R) : (groatref05_Same_s3 kr0).bind F = groatref05_Same_s3 (fun a0 => (kr0 a0).bind F) := by
  simp only [groatref05_Same_s3, cond_bind, within_bind, none_bind, some_bind, sum_bind, bind_bind]
def groatref05_Same_l0 : Nat → (List Int) → (List Int) → Int → Option (Sum Bool Unit)
  | 0, _, _, _ => none
  | k + 1, v0, v1, v2 => groatref05_Same_s1 v0 v1 v2 (fun a0 => some (.inl a0)) (fun a0 a1 a2 => groatref05_Same_l0 k a0 a1 a2) (some (.inr ()))
def groatref05_Same (a_0 : (List Int)) (b_1 : (List Int)) : Option Bool :=
  groatref05_Same_s0 a_0 b_1 (fun a0 => some a0) (fun a0 a1 a2 => (groatref05_Same_l0 FUEL a0 a1 a2).bind fun e => (Sum.elim (fun (we : Bool) => groatref05_Same_s2 we (fun a0 => some a0)) (fun (we : Unit) => groatref05_Same_s3 (fun a0 => some a0)) e))
end Groat

/- The functions of groatref04 as plain Lean. -/
set_option linter.unusedVariables false
set_option linter.unusedSimpArgs false
set_option maxRecDepth 100000
namespace Groat
open Go Go.Ref
def groatref04_Is_s0 {R : Type} (class_0 : Int) (b_1 : Int) (kr0 : Bool → Option R) : Option R :=
  (bif (decide ((48 : Int) ≤ b_1)) then (bif (decide ((65 : Int) ≤ b_1)) then (bif (decide (b_1 ≤ (90 : Int))) then (bif (decide (class_0 = (1 : Int))) then (kr0 (decide (b_1 ≤ (57 : Int)))) else (bif (decide (class_0 = (2 : Int))) then (kr0 true) else (bif (decide (class_0 = (3 : Int))) then (bif (decide (b_1 ≤ (57 : Int))) then (kr0 true) else (kr0 true)) else (bif (decide (class_0 = (4 : Int))) then (bif (decide ((32 : Int) ≤ b_1)) then (kr0 (decide (b_1 ≤ (126 : Int)))) else (kr0 false)) else (bif (decide (class_0 = (5 : Int))) then (kr0 true) else (kr0 (decide (class_0 = (6 : Int))))))))) else (bif (decide ((97 : Int) ≤ b_1)) then (bif (decide (class_0 = (1 : Int))) then (kr0 (decide (b_1 ≤ (57 : Int)))) else (bif (decide (class_0 = (2 : Int))) then (kr0 (decide (b_1 ≤ (122 : Int)))) else (bif (decide (class_0 = (3 : Int))) then (bif (decide (b_1 ≤ (57 : Int))) then (kr0 true) else (kr0 (decide (b_1 ≤ (122 : Int))))) else (bif (decide (class_0 = (4 : Int))) then (bif (decide ((32 : Int) ≤ b_1)) then (kr0 (decide (b_1 ≤ (126 : Int)))) else (kr0 false)) else (bif (decide (class_0 = (5 : Int))) then (kr0 true) else (kr0 (decide (class_0 = (6 : Int))))))))) else (bif (decide (class_0 = (1 : Int))) then (kr0 (decide (b_1 ≤ (57 : Int)))) else (bif (decide (class_0 = (2 : Int))) then (kr0 false) else (bif (decide (class_0 = (3 : Int))) then (bif (decide (b_1 ≤ (57 : Int))) then (kr0 true) else (kr0 false)) else (bif (decide (class_0 = (4 : Int))) then (bif (decide ((32 : Int) ≤ b_1)) then (kr0 (decide (b_1 ≤ (126 : Int)))) else (kr0 false)) else (bif (decide (class_0 = (5 : Int))) then (kr0 true) else (kr0 (decide (class_0 = (6 : Int))))))))))) else (bif (decide ((97 : Int) ≤ b_1)) then (bif (decide (class_0 = (1 : Int))) then (kr0 (decide (b_1 ≤ (57 : Int)))) else (bif (decide (class_0 = (2 : Int))) then (kr0 (decide (b_1 ≤ (122 : Int)))) else (bif (decide (class_0 = (3 : Int))) then (bif (decide (b_1 ≤ (57 : Int))) then (kr0 true) else (kr0 (decide (b_1 ≤ (122 : Int))))) else (bif (decide (class_0 = (4 : Int))) then (bif (decide ((32 : Int) ≤ b_1)) then (kr0 (decide (b_1 ≤ (126 : Int)))) else (kr0 false)) else (bif (decide (class_0 = (5 : Int))) then (kr0 true) else (kr0 (decide (class_0 = (6 : Int))))))))) else (bif (decide (class_0 = (1 : Int))) then (kr0 (decide (b_1 ≤ (57 : Int)))) else (bif (decide (class_0 = (2 : Int))) then (kr0 false) else (bif (decide (class_0 = (3 : Int))) then (bif (decide (b_1 ≤ (57 : Int))) then (kr0 true) else (kr0 false)) else (bif (decide (class_0 = (4 : Int))) then (bif (decide ((32 : Int) ≤ b_1)) then (kr0 (decide (b_1 ≤ (126 : Int)))) else (kr0 false)) else (bif (decide (class_0 = (5 : Int))) then (kr0 true) else (kr0 (decide (class_0 = (6 : Int))))))))))) else (bif (decide ((65 : Int) ≤ b_1)) then (bif (decide (b_1 ≤ (90 : Int))) then (bif (decide (class_0 = (1 : Int))) then (kr0 false) else (bif (decide (class_0 = (2 : Int))) then (kr0 true) else (bif (decide (class_0 = (3 : Int))) then (kr0 true) else (bif (decide (class_0 = (4 : Int))) then (bif (decide ((32 : Int) ≤ b_1)) then (kr0 (decide (b_1 ≤ (126 : Int)))) else (kr0 false)) else (bif (decide (class_0 = (5 : Int))) then (kr0 true) else (kr0 (decide (class_0 = (6 : Int))))))))) else (bif (decide ((97 : Int) ≤ b_1)) then (bif (decide (class_0 = (1 : Int))) then (kr0 false) else (bif (decide (class_0 = (2 : Int))) then (kr0 (decide (b_1 ≤ (122 : Int)))) else (bif (decide (class_0 = (3 : Int))) then (kr0 (decide (b_1 ≤ (122 : Int)))) else (bif (decide (class_0 = (4 : Int))) then (bif (decide ((32 : Int) ≤ b_1)) then (kr0 (decide (b_1 ≤ (126 : Int)))) else (kr0 false)) else (bif (decide (class_0 = (5 : Int))) then (kr0 true) else (kr0 (decide (class_0 = (6 : Int))))))))) else (bif (decide (class_0 = (1 : Int))) then (kr0 false) else (bif (decide (class_0 = (2 : Int))) then (kr0 false) else (bif (decide (class_0 = (3 : Int))) then (kr0 false) else (bif (decide (class_0 = (4 : Int))) then (bif (decide ((32 : Int) ≤ b_1)) then (kr0 (decide (b_1 ≤ (126 : Int)))) else (kr0 false)) else (bif (decide (class_0 = (5 : Int))) then (kr0 true) else (kr0 (decide (class_0 = (6 : Int))))))))))) else (bif (decide ((97 : Int) ≤ b_1)) then (bif (decide (class_0 = (1 : Int))) then (kr0 false) else (bif (decide (class_0 = (2 : Int))) then (kr0 (decide (b_1 ≤ (122 : Int)))) else (bif (decide (class_0 = (3 : Int))) then (kr0 (decide (b_1 ≤ (122 : Int)))) else (bif (decide (class_0 = (4 : Int))) then (bif (decide ((32 : Int) ≤ b_1)) then (kr0 (decide (b_1 ≤ (126 : Int)))) else (kr0 false)) else (bif (decide (class_0 = (5 : Int))) then (kr0 true) else (kr0 (decide (class_0 = (6 : Int))))))))) else (bif (decide (class_0 = (1 : Int))) then (kr0 false) else (bif (decide (class_0 = (2 : Int))) then (kr0 false) else (bif (decide (class_0 = (3 : Int))) then (kr0 false) else (bif (decide (class_0 = (4 : Int))) then (bif (decide ((32 : Int) ≤ b_1)) then (kr0 (decide (b_1 ≤ (126 : Int)))) else (kr0 false)) else (bif (decide (class_0 = (5 : Int))) then (kr0 true) else (kr0 (decide (class_0 = (6 : Int))))))))))))
theorem groatref04_Is_s0_bind {R S : Type} (F : R → Option S) (class_0 : Int) (b_1 : Int) (kr0 : Bool → Option R) : (groatref04_Is_s0 class_0 b_1 kr0).bind F = groatref04_Is_s0 class_0 b_1 (fun a0 => (kr0 a0).bind F) := by
  simp only [groatref04_Is_s0, cond_bind, within_bind, none_bind, some_bind, sum_bind, bind_bind]
def groatref04_Is (class_0 : Int) (b_1 : Int) : Option Bool :=
  groatref04_Is_s0 class_0 b_1 (fun a0 => some a0)
def groatref04_Wider_s0 {R : Type} (a_0 : Int) (b_1 : Int) (kr0 : Bool → Option R) (go0 : Int → Int → Int → Option R) : Option R :=
  (bif (decide (a_0 < (1 : Int))) then (kr0 false) else (bif (decide ((6 : Int) < a_0)) then (kr0 false) else (bif (decide (b_1 < (1 : Int))) then (kr0 false) else (bif (decide ((6 : Int) < b_1)) then (kr0 false) else (go0 a_0 b_1 (0 : Int))))))
theorem groatref04_Wider_s0_bind {R S : Type} (F : R → Option S) (a_0 : Int) (b_1 : Int) (kr0 : Bool → Option R) (go0 : Int → Int → Int → Option R) : (groatref04_Wider_s0 a_0 b_1 kr0 go0).bind F = groatref04_Wider_s0 a_0 b_1 (fun a0 => (kr0 a0).bind F) (fun a0 a1 a2 => (go0 a0 a1 a2).bind F) := by
  simp only [groatref04_Wider_s0, cond_bind, within_bind, none_bind, some_bind, sum_bind, bind_bind]
def groatref04_Wider_s1 {R : Type} (a_0 : Int) (b_1 : Int) (t5 : Int) (ex0_0 : Bool → Option R) (nx0 : Int → Int → Int → Option R) (ex0_1 : Option R) : Option R :=
  (bif (decide (t5 < (256 : Int))) then ((groatref04_Is b_1 (IntKind.u8.wrap t5)).bind fun r1 => (bif r1 then ((groatref04_Is a_0 (IntKind.u8.wrap t5)).bind fun r2 => (bif (!r2) then (ex0_0 false) else (nx0 a_0 b_1 (IntKind.i64.wrap (t5 + (1 : Int)))))) else (nx0 a_0 b_1 (IntKind.i64.wrap (t5 + (1 : Int)))))) else (ex0_1))
theorem groatref04_Wider_s1_bind {R S : Type} (F : R → Option S) (a_0 : Int) (b_1 : Int) (t5 : Int) (ex0_0 : Bool → Option R) (nx0 : Int → Int → Int → Option R) (ex0_1 : Option R) : (groatref04_Wider_s1 a_0 b_1 t5 ex0_0 nx0 ex0_1).bind F = groatref04_Wider_s1 a_0 b_1 t5 (fun a0 => (ex0_0 a0).bind F) (fun a0 a1 a2 => (nx0 a0 a1 a2).bind F) ((ex0_1).bind F) := by
  simp only [groatref04_Wider_s1, cond_bind, within_bind, none_bind, some_bind, sum_bind, bind_bind]
def groatref04_Wider_s2 {R : Type} (t4 : Bool) (kr0 : Bool → Option R) : Option R :=
  (kr0 t4)
theorem groatref04_Wider_s2_bind {R S : Type} (F : R → Option S) (t4 : Bool) (kr0 : Bool → Option R) : (groatref04_Wider_s2 t4 kr0).bind F = groatref04_Wider_s2 t4 (fun a0 => (kr0 a0).bind F) := by
  simp only [groatref04_Wider_s2, cond_bind, within_bind, none_bind, some_bind, sum_bind, bind_bind]
def groatref04_Wider_s3 {R : Type}  (kr0 : Bool → Option R) : Option R :=
  (kr0 true)
theorem groatref04_Wider_s3_bind {R S : Type} (F : R → Option S)  (kr0 : Bool → Option R) : (groatref04_Wider_s3 kr0).bind F = groatref04_Wider_s3 (fun a0 => (kr0 a0).bind F) := by
  simp only [groatref04_Wider_s3, cond_bind, within_bind, none_bind, some_bind, sum_bind, bind_bind]
def groatref04_Wider_l0 : Nat → Int → Int → Int → Option (Sum Bool Unit)
  | 0, _, _, _ => none
  | k + 1, v0, v1, v2 => groatref04_Wider_s1 v0 v1 v2 (fun a0 => some (.inl a0)) (fun a0 a1 a2 => groatref04_Wider_l0 k a0 a1 a2) (some (.inr ()))
def groatref04_Wider (a_0 : Int) (b_1 : Int) : Option Bool :=
  groatref04_Wider_s0 a_0 b_1 (fun a0 => some a0) (fun a0 a1 a2 => (groatref04_Wider_l0 FUEL a0 a1 a2).bind fun e => (Sum.elim (fun (we : Bool) => groatref04_Wider_s2 we (fun a0 => some a0)) (fun (we : Unit) => groatref04_Wider_s3 (fun a0 => some a0)) e))
def groatref04_First_s0 {R : Type} (class_0 : Int) (s_1 : ByteArray) (go0 : Int → ByteArray → Int → Option R) : Option R :=
  (go0 class_0 s_1 (0 : Int))
theorem groatref04_First_s0_bind {R S : Type} (F : R → Option S) (class_0 : Int) (s_1 : ByteArray) (go0 : Int → ByteArray → Int → Option R) : (groatref04_First_s0 class_0 s_1 go0).bind F = groatref04_First_s0 class_0 s_1 (fun a0 a1 a2 => (go0 a0 a1 a2).bind F) := by
  simp only [groatref04_First_s0, cond_bind, within_bind, none_bind, some_bind, sum_bind, bind_bind]
def groatref04_First_s1 {R : Type} (class_0 : Int) (s_1 : ByteArray) (t5 : Int) (ex0_0 : Int → Option R) (nx0 : Int → ByteArray → Int → Option R) (ex0_1 : Option R) : Option R :=
  (bif (decide (t5 < ((s_1).size : Int))) then (within t5 (s_1).size ((groatref04_Is class_0 (byteAt s_1 (t5).toNat)).bind fun r1 => (bif (!r1) then (ex0_0 t5) else (nx0 class_0 s_1 (IntKind.i64.wrap (t5 + (1 : Int))))))) else (ex0_1))
theorem groatref04_First_s1_bind {R S : Type} (F : R → Option S) (class_0 : Int) (s_1 : ByteArray) (t5 : Int) (ex0_0 : Int → Option R) (nx0 : Int → ByteArray → Int → Option R) (ex0_1 : Option R) : (groatref04_First_s1 class_0 s_1 t5 ex0_0 nx0 ex0_1).bind F = groatref04_First_s1 class_0 s_1 t5 (fun a0 => (ex0_0 a0).bind F) (fun a0 a1 a2 => (nx0 a0 a1 a2).bind F) ((ex0_1).bind F) := by
  simp only [groatref04_First_s1, cond_bind, within_bind, none_bind, some_bind, sum_bind, bind_bind]
def groatref04_First_s2 {R : Type} (t4 : Int) (kr0 : Int → Option R) : Option R :=
  (kr0 t4)
theorem groatref04_First_s2_bind {R S : Type} (F : R → Option S) (t4 : Int) (kr0 : Int → Option R) : (groatref04_First_s2 t4 kr0).bind F = groatref04_First_s2 t4 (fun a0 => (kr0 a0).bind F) := by
  simp only [groatref04_First_s2, cond_bind, within_bind, none_bind, some_bind, sum_bind, bind_bind]
def groatref04_First_s3 {R : Type}  (kr0 : Int → Option R) : Option R :=
  (kr0 (-1 : Int))
theorem groatref04_First_s3_bind {R S : Type} (F : R → Option S)  (kr0 : Int → Option R) : (groatref04_First_s3 kr0).bind F = groatref04_First_s3 (fun a0 => (kr0 a0).bind F) := by
  simp only [groatref04_First_s3, cond_bind, within_bind, none_bind, some_bind, sum_bind, bind_bind]
def groatref04_First_l0 : Nat → Int → ByteArray → Int → Option (Sum Int Unit)
  | 0, _, _, _ => none
  | k + 1, v0, v1, v2 => groatref04_First_s1 v0 v1 v2 (fun a0 => some (.inl a0)) (fun a0 a1 a2 => groatref04_First_l0 k a0 a1 a2) (some (.inr ()))
def groatref04_First (class_0 : Int) (s_1 : ByteArray) : Option Int :=
  groatref04_First_s0 class_0 s_1 (fun a0 a1 a2 => (groatref04_First_l0 FUEL a0 a1 a2).bind fun e => (Sum.elim (fun (we : Int) => groatref04_First_s2 we (fun a0 => some a0)) (fun (we : Unit) => groatref04_First_s3 (fun a0 => some a0)) e))
end Groat

/- The functions of groatref08 as plain Lean. -/
set_option linter.unusedVariables false
set_option linter.unusedSimpArgs false
set_option maxRecDepth 100000
namespace Groat
open Go Go.Ref
def groatref08_First_s0 {R : Type} (b_0 : Int) (kr0 : Int → Option R) : Option R :=
  (bif (decide (b_0 = (0 : Int))) then (kr0 (0 : Int)) else (bif (decide ((Int.tmod (IntKind.u8.wrap (Int.tdiv b_0 (32 : Int))) (2 : Int)) = (1 : Int))) then (kr0 (0 : Int)) else (bif (decide ((Int.tmod b_0 (32 : Int)) = (31 : Int))) then (kr0 (2 : Int)) else (kr0 (1 : Int)))))
theorem groatref08_First_s0_bind {R S : Type} (F : R → Option S) (b_0 : Int) (kr0 : Int → Option R) : (groatref08_First_s0 b_0 kr0).bind F = groatref08_First_s0 b_0 (fun a0 => (kr0 a0).bind F) := by
  simp only [groatref08_First_s0, cond_bind, within_bind, none_bind, some_bind, sum_bind, bind_bind]
def groatref08_First (b_0 : Int) : Option Int :=
  groatref08_First_s0 b_0 (fun a0 => some a0)
def groatref08_Get_s0 {R : Type} (b_0 : ByteArray) (at_1 : Int) (kr0 : Int → Int → Int → Option R) : Option R :=
  (bif (decide (at_1 < (0 : Int))) then (kr0 (0 : Int) (0 : Int) (1 : Int)) else (bif (decide (((b_0).size : Int) < at_1)) then (kr0 (0 : Int) (0 : Int) (1 : Int)) else (bif (decide (at_1 = ((b_0).size : Int))) then (kr0 (0 : Int) (0 : Int) (2 : Int)) else (within at_1 (b_0).size ((groatref08_First (byteAt b_0 (at_1).toNat)).bind fun r1 => (bif (decide (r1 = (0 : Int))) then (kr0 (0 : Int) (0 : Int) (13 : Int)) else (bif (decide (r1 = (1 : Int))) then (within at_1 (b_0).size (kr0 (IntKind.i64.wrap (byteAt b_0 (at_1).toNat)) (IntKind.i64.wrap (at_1 + (1 : Int))) (0 : Int))) else (bif (decide ((IntKind.i64.wrap (((b_0).size : Int) - at_1)) < (2 : Int))) then (kr0 (0 : Int) (0 : Int) (2 : Int)) else (within (IntKind.i64.wrap (at_1 + (1 : Int))) (b_0).size (bif (decide ((byteAt b_0 ((IntKind.i64.wrap (at_1 + (1 : Int)))).toNat) = (0 : Int))) then (kr0 (0 : Int) (0 : Int) (13 : Int)) else (within (IntKind.i64.wrap (at_1 + (1 : Int))) (b_0).size (bif (decide ((127 : Int) < (byteAt b_0 ((IntKind.i64.wrap (at_1 + (1 : Int)))).toNat))) then (kr0 (0 : Int) (0 : Int) (13 : Int)) else (within at_1 (b_0).size (within (IntKind.i64.wrap (at_1 + (1 : Int))) (b_0).size (kr0 (IntKind.i64.wrap ((IntKind.i64.wrap ((256 : Int) * (IntKind.i64.wrap (byteAt b_0 (at_1).toNat)))) + (IntKind.i64.wrap (byteAt b_0 ((IntKind.i64.wrap (at_1 + (1 : Int)))).toNat)))) (IntKind.i64.wrap (at_1 + (2 : Int))) (0 : Int))))))))))))))))
theorem groatref08_Get_s0_bind {R S : Type} (F : R → Option S) (b_0 : ByteArray) (at_1 : Int) (kr0 : Int → Int → Int → Option R) : (groatref08_Get_s0 b_0 at_1 kr0).bind F = groatref08_Get_s0 b_0 at_1 (fun a0 a1 a2 => (kr0 a0 a1 a2).bind F) := by
  simp only [groatref08_Get_s0, cond_bind, within_bind, none_bind, some_bind, sum_bind, bind_bind]
def groatref08_Get (b_0 : ByteArray) (at_1 : Int) : Option (Int × Int × Int) :=
  groatref08_Get_s0 b_0 at_1 (fun a0 a1 a2 => some (a0, a1, a2))
end Groat

/- The functions of groatref09 as plain Lean. -/
set_option linter.unusedVariables false
set_option linter.unusedSimpArgs false
set_option maxRecDepth 100000
namespace Groat
open Go Go.Ref
def groatref09_Get_s0 {R : Type} (b_0 : ByteArray) (at_1 : Int) (kr0 : Int → Int → Int → Option R) : Option R :=
  (bif (decide (at_1 < (0 : Int))) then (kr0 (0 : Int) (0 : Int) (1 : Int)) else (bif (decide (((b_0).size : Int) < at_1)) then (kr0 (0 : Int) (0 : Int) (1 : Int)) else (bif (decide (at_1 = ((b_0).size : Int))) then (kr0 (0 : Int) (0 : Int) (2 : Int)) else (within at_1 (b_0).size (bif (decide ((IntKind.i64.wrap (byteAt b_0 (at_1).toNat)) < (128 : Int))) then (kr0 (IntKind.i64.wrap (byteAt b_0 (at_1).toNat)) (IntKind.i64.wrap (at_1 + (1 : Int))) (0 : Int)) else (bif (!(decide ((IntKind.i64.wrap (byteAt b_0 (at_1).toNat)) = (129 : Int)))) then (bif (!(decide ((IntKind.i64.wrap (byteAt b_0 (at_1).toNat)) = (130 : Int)))) then (kr0 (0 : Int) (0 : Int) (14 : Int)) else (bif (decide ((IntKind.i64.wrap (((b_0).size : Int) - at_1)) < (IntKind.i64.wrap ((IntKind.i64.wrap (byteAt b_0 (at_1).toNat)) - (127 : Int))))) then (kr0 (0 : Int) (0 : Int) (2 : Int)) else (bif (decide ((IntKind.i64.wrap (byteAt b_0 (at_1).toNat)) = (129 : Int))) then (within (IntKind.i64.wrap (at_1 + (1 : Int))) (b_0).size (bif (decide ((byteAt b_0 ((IntKind.i64.wrap (at_1 + (1 : Int)))).toNat) < (128 : Int))) then (kr0 (0 : Int) (0 : Int) (14 : Int)) else (within (IntKind.i64.wrap (at_1 + (1 : Int))) (b_0).size (kr0 (IntKind.i64.wrap (byteAt b_0 ((IntKind.i64.wrap (at_1 + (1 : Int)))).toNat)) (IntKind.i64.wrap (at_1 + (2 : Int))) (0 : Int))))) else (within (IntKind.i64.wrap (at_1 + (1 : Int))) (b_0).size (bif (decide ((byteAt b_0 ((IntKind.i64.wrap (at_1 + (1 : Int)))).toNat) = (0 : Int))) then (kr0 (0 : Int) (0 : Int) (14 : Int)) else (within (IntKind.i64.wrap (at_1 + (1 : Int))) (b_0).size (within (IntKind.i64.wrap (at_1 + (2 : Int))) (b_0).size (kr0 (IntKind.i64.wrap ((IntKind.i64.wrap ((256 : Int) * (IntKind.i64.wrap (byteAt b_0 ((IntKind.i64.wrap (at_1 + (1 : Int)))).toNat)))) + (IntKind.i64.wrap (byteAt b_0 ((IntKind.i64.wrap (at_1 + (2 : Int)))).toNat)))) (IntKind.i64.wrap (at_1 + (3 : Int))) (0 : Int))))))))) else (bif (decide ((IntKind.i64.wrap (((b_0).size : Int) - at_1)) < (IntKind.i64.wrap ((IntKind.i64.wrap (byteAt b_0 (at_1).toNat)) - (127 : Int))))) then (kr0 (0 : Int) (0 : Int) (2 : Int)) else (bif (decide ((IntKind.i64.wrap (byteAt b_0 (at_1).toNat)) = (129 : Int))) then (within (IntKind.i64.wrap (at_1 + (1 : Int))) (b_0).size (bif (decide ((byteAt b_0 ((IntKind.i64.wrap (at_1 + (1 : Int)))).toNat) < (128 : Int))) then (kr0 (0 : Int) (0 : Int) (14 : Int)) else (within (IntKind.i64.wrap (at_1 + (1 : Int))) (b_0).size (kr0 (IntKind.i64.wrap (byteAt b_0 ((IntKind.i64.wrap (at_1 + (1 : Int)))).toNat)) (IntKind.i64.wrap (at_1 + (2 : Int))) (0 : Int))))) else (within (IntKind.i64.wrap (at_1 + (1 : Int))) (b_0).size (bif (decide ((byteAt b_0 ((IntKind.i64.wrap (at_1 + (1 : Int)))).toNat) = (0 : Int))) then (kr0 (0 : Int) (0 : Int) (14 : Int)) else (within (IntKind.i64.wrap (at_1 + (1 : Int))) (b_0).size (within (IntKind.i64.wrap (at_1 + (2 : Int))) (b_0).size (kr0 (IntKind.i64.wrap ((IntKind.i64.wrap ((256 : Int) * (IntKind.i64.wrap (byteAt b_0 ((IntKind.i64.wrap (at_1 + (1 : Int)))).toNat)))) + (IntKind.i64.wrap (byteAt b_0 ((IntKind.i64.wrap (at_1 + (2 : Int)))).toNat)))) (IntKind.i64.wrap (at_1 + (3 : Int))) (0 : Int))))))))))))))
theorem groatref09_Get_s0_bind {R S : Type} (F : R → Option S) (b_0 : ByteArray) (at_1 : Int) (kr0 : Int → Int → Int → Option R) : (groatref09_Get_s0 b_0 at_1 kr0).bind F = groatref09_Get_s0 b_0 at_1 (fun a0 a1 a2 => (kr0 a0 a1 a2).bind F) := by
  simp only [groatref09_Get_s0, cond_bind, within_bind, none_bind, some_bind, sum_bind, bind_bind]
def groatref09_Get (b_0 : ByteArray) (at_1 : Int) : Option (Int × Int × Int) :=
  groatref09_Get_s0 b_0 at_1 (fun a0 a1 a2 => some (a0, a1, a2))
end Groat

/- The functions of groatref10 as plain Lean. -/
set_option linter.unusedVariables false
set_option linter.unusedSimpArgs false
set_option maxRecDepth 100000
namespace Groat
open Go Go.Ref
def groatref10_has_s0 {R : Type} (l_0 : (List (Int × ByteArray × Unit))) (n_1 : Int) (tag_2 : Int) (go0 : (List (Int × ByteArray × Unit)) → Int → Int → Int → Option R) : Option R :=
  (go0 l_0 n_1 tag_2 (0 : Int))
theorem groatref10_has_s0_bind {R S : Type} (F : R → Option S) (l_0 : (List (Int × ByteArray × Unit))) (n_1 : Int) (tag_2 : Int) (go0 : (List (Int × ByteArray × Unit)) → Int → Int → Int → Option R) : (groatref10_has_s0 l_0 n_1 tag_2 go0).bind F = groatref10_has_s0 l_0 n_1 tag_2 (fun a0 a1 a2 a3 => (go0 a0 a1 a2 a3).bind F) := by
  simp only [groatref10_has_s0, cond_bind, within_bind, none_bind, some_bind, sum_bind, bind_bind]
def groatref10_has_s1 {R : Type} (l_0 : (List (Int × ByteArray × Unit))) (n_1 : Int) (tag_2 : Int) (t7 : Int) (ex0_0 : Bool → Option R) (nx0 : (List (Int × ByteArray × Unit)) → Int → Int → Int → Option R) (ex0_1 : Option R) : Option R :=
  (bif (decide (t7 < n_1)) then (within t7 (List.length l_0) (bif (decide ((List.getD l_0 (t7).toNat ((0 : Int), (bs []), ())).1 = tag_2)) then (ex0_0 true) else (nx0 l_0 n_1 tag_2 (IntKind.i64.wrap (t7 + (1 : Int)))))) else (ex0_1))
theorem groatref10_has_s1_bind {R S : Type} (F : R → Option S) (l_0 : (List (Int × ByteArray × Unit))) (n_1 : Int) (tag_2 : Int) (t7 : Int) (ex0_0 : Bool → Option R) (nx0 : (List (Int × ByteArray × Unit)) → Int → Int → Int → Option R) (ex0_1 : Option R) : (groatref10_has_s1 l_0 n_1 tag_2 t7 ex0_0 nx0 ex0_1).bind F = groatref10_has_s1 l_0 n_1 tag_2 t7 (fun a0 => (ex0_0 a0).bind F) (fun a0 a1 a2 a3 => (nx0 a0 a1 a2 a3).bind F) ((ex0_1).bind F) := by
  simp only [groatref10_has_s1, cond_bind, within_bind, none_bind, some_bind, sum_bind, bind_bind]
def groatref10_has_s2 {R : Type} (t6 : Bool) (kr0 : Bool → Option R) : Option R :=
  (kr0 t6)
theorem groatref10_has_s2_bind {R S : Type} (F : R → Option S) (t6 : Bool) (kr0 : Bool → Option R) : (groatref10_has_s2 t6 kr0).bind F = groatref10_has_s2 t6 (fun a0 => (kr0 a0).bind F) := by
  simp only [groatref10_has_s2, cond_bind, within_bind, none_bind, some_bind, sum_bind, bind_bind]
def groatref10_has_s3 {R : Type}  (kr0 : Bool → Option R) : Option R :=
  (kr0 false)
theorem groatref10_has_s3_bind {R S : Type} (F : R → Option S)  (kr0 : Bool → Option R) : (groatref10_has_s3 kr0).bind F = groatref10_has_s3 (fun a0 => (kr0 a0).bind F) := by
  simp only [groatref10_has_s3, cond_bind, within_bind, none_bind, some_bind, sum_bind, bind_bind]
def groatref10_has_l0 : Nat → (List (Int × ByteArray × Unit)) → Int → Int → Int → Option (Sum Bool Unit)
  | 0, _, _, _, _ => none
  | k + 1, v0, v1, v2, v3 => groatref10_has_s1 v0 v1 v2 v3 (fun a0 => some (.inl a0)) (fun a0 a1 a2 a3 => groatref10_has_l0 k a0 a1 a2 a3) (some (.inr ()))
def groatref10_has (l_0 : (List (Int × ByteArray × Unit))) (n_1 : Int) (tag_2 : Int) : Option Bool :=
  groatref10_has_s0 l_0 n_1 tag_2 (fun a0 a1 a2 a3 => (groatref10_has_l0 FUEL a0 a1 a2 a3).bind fun e => (Sum.elim (fun (we : Bool) => groatref10_has_s2 we (fun a0 => some a0)) (fun (we : Unit) => groatref10_has_s3 (fun a0 => some a0)) e))
def groatref10_Get_s0 {R : Type} (b_0 : ByteArray) (go0 : ByteArray → (List (Int × ByteArray × Unit)) → Int → Option R) : Option R :=
  (go0 b_0 ([] : List (Int × ByteArray × Unit)) (0 : Int))
theorem groatref10_Get_s0_bind {R S : Type} (F : R → Option S) (b_0 : ByteArray) (go0 : ByteArray → (List (Int × ByteArray × Unit)) → Int → Option R) : (groatref10_Get_s0 b_0 go0).bind F = groatref10_Get_s0 b_0 (fun a0 a1 a2 => (go0 a0 a1 a2).bind F) := by
  simp only [groatref10_Get_s0, cond_bind, within_bind, none_bind, some_bind, sum_bind, bind_bind]
def groatref10_Get_s1 {R : Type} (b_0 : ByteArray) (t5 : (List (Int × ByteArray × Unit))) (t6 : Int) (ex0_0 : (List (Int × ByteArray × Unit)) → Int → Int → (List (Int × ByteArray × Unit)) → Option R) (nx0 : ByteArray → (List (Int × ByteArray × Unit)) → Int → Option R) (ex0_1 : (List (Int × ByteArray × Unit)) → Option R) : Option R :=
  (bif (decide (t6 < ((b_0).size : Int))) then ((groatref08_Get b_0 t6).bind fun r1 => (bif (!(decide (r1.2.2 = (0 : Int)))) then (ex0_0 ([] : List (Int × ByteArray × Unit)) r1.2.2 t6 t5) else ((groatref09_Get b_0 r1.2.1).bind fun r2 => (bif (!(decide (r2.2.2 = (0 : Int)))) then (ex0_0 ([] : List (Int × ByteArray × Unit)) r2.2.2 r1.2.1 t5) else (bif (decide ((IntKind.i64.wrap (((b_0).size : Int) - r2.2.1)) < r2.1)) then (ex0_0 ([] : List (Int × ByteArray × Unit)) (2 : Int) ((b_0).size : Int) t5) else ((groatref10_has t5 ((List.length t5) : Int) r1.1).bind fun r3 => (bif r3 then (ex0_0 ([] : List (Int × ByteArray × Unit)) (10 : Int) t6 t5) else (bif (decide ((0 : Int) ≤ (IntKind.i64.wrap (r2.2.1 + r2.1)))) then (bif (decide ((IntKind.i64.wrap (r2.2.1 + r2.1)) ≤ (((b_0).size : Nat) : Int))) then (bif (decide ((0 : Int) ≤ r2.2.1)) then (bif (decide (r2.2.1 ≤ ((((IntKind.i64.wrap (r2.2.1 + r2.1))).toNat : Nat) : Int))) then (bif (decide (((List.length t5) + (List.length ([(r1.1, ((b_0).extract (r2.2.1).toNat ((IntKind.i64.wrap (r2.2.1 + r2.1))).toNat), ())] : List (Int × ByteArray × Unit)))) * 24 ≤ 140737488355328)) then (nx0 b_0 (t5 ++ ([(r1.1, ((b_0).extract (r2.2.1).toNat ((IntKind.i64.wrap (r2.2.1 + r2.1))).toNat), ())] : List (Int × ByteArray × Unit))) (IntKind.i64.wrap (r2.2.1 + r2.1))) else none) else none) else none) else none) else none)))))))) else (ex0_1 t5))
theorem groatref10_Get_s1_bind {R S : Type} (F : R → Option S) (b_0 : ByteArray) (t5 : (List (Int × ByteArray × Unit))) (t6 : Int) (ex0_0 : (List (Int × ByteArray × Unit)) → Int → Int → (List (Int × ByteArray × Unit)) → Option R) (nx0 : ByteArray → (List (Int × ByteArray × Unit)) → Int → Option R) (ex0_1 : (List (Int × ByteArray × Unit)) → Option R) : (groatref10_Get_s1 b_0 t5 t6 ex0_0 nx0 ex0_1).bind F = groatref10_Get_s1 b_0 t5 t6 (fun a0 a1 a2 a3 => (ex0_0 a0 a1 a2 a3).bind F) (fun a0 a1 a2 => (nx0 a0 a1 a2).bind F) (fun a0 => (ex0_1 a0).bind F) := by
  simp only [groatref10_Get_s1, cond_bind, within_bind, none_bind, some_bind, sum_bind, bind_bind]
def groatref10_Get_s2 {R : Type} (t2 : (List (Int × ByteArray × Unit))) (t3 : Int) (t4 : Int) (t5 : (List (Int × ByteArray × Unit))) (kr0 : (List (Int × ByteArray × Unit)) → Int → Int → Option R) : Option R :=
  (kr0 t2 t3 t4)
theorem groatref10_Get_s2_bind {R S : Type} (F : R → Option S) (t2 : (List (Int × ByteArray × Unit))) (t3 : Int) (t4 : Int) (t5 : (List (Int × ByteArray × Unit))) (kr0 : (List (Int × ByteArray × Unit)) → Int → Int → Option R) : (groatref10_Get_s2 t2 t3 t4 t5 kr0).bind F = groatref10_Get_s2 t2 t3 t4 t5 (fun a0 a1 a2 => (kr0 a0 a1 a2).bind F) := by
  simp only [groatref10_Get_s2, cond_bind, within_bind, none_bind, some_bind, sum_bind, bind_bind]
def groatref10_Get_s3 {R : Type} (t5 : (List (Int × ByteArray × Unit))) (kr1 : (List (Int × ByteArray × Unit)) → Int → Int → Option R) : Option R :=
  (kr1 t5 (0 : Int) (0 : Int))
theorem groatref10_Get_s3_bind {R S : Type} (F : R → Option S) (t5 : (List (Int × ByteArray × Unit))) (kr1 : (List (Int × ByteArray × Unit)) → Int → Int → Option R) : (groatref10_Get_s3 t5 kr1).bind F = groatref10_Get_s3 t5 (fun a0 a1 a2 => (kr1 a0 a1 a2).bind F) := by
  simp only [groatref10_Get_s3, cond_bind, within_bind, none_bind, some_bind, sum_bind, bind_bind]
def groatref10_Get_l0 : Nat → ByteArray → (List (Int × ByteArray × Unit)) → Int → Option (Sum ((List (Int × ByteArray × Unit)) × Int × Int × (List (Int × ByteArray × Unit))) (List (Int × ByteArray × Unit)))
  | 0, _, _, _ => none
  | k + 1, v0, v1, v2 => groatref10_Get_s1 v0 v1 v2 (fun a0 a1 a2 a3 => some (.inl (a0, a1, a2, a3))) (fun a0 a1 a2 => groatref10_Get_l0 k a0 a1 a2) (fun a0 => some (.inr a0))
def groatref10_Get (b_0 : ByteArray) : Option (Sum ((List (Int × ByteArray × Unit)) × Int × Int) ((List (Int × ByteArray × Unit)) × Int × Int)) :=
  groatref10_Get_s0 b_0 (fun a0 a1 a2 => (groatref10_Get_l0 FUEL a0 a1 a2).bind fun e => (Sum.elim (fun (we : ((List (Int × ByteArray × Unit)) × Int × Int × (List (Int × ByteArray × Unit)))) => groatref10_Get_s2 we.1 we.2.1 we.2.2.1 we.2.2.2 (fun a0 a1 a2 => some (.inl (a0, a1, a2)))) (fun (we : (List (Int × ByteArray × Unit))) => groatref10_Get_s3 we (fun a0 a1 a2 => some (.inr (a0, a1, a2)))) e))
end Groat

/- The functions of groatref11 as plain Lean. -/
set_option linter.unusedVariables false
set_option linter.unusedSimpArgs false
set_option maxRecDepth 100000
namespace Groat
open Go Go.Ref
def groatref11_Check_s0 {R : Type} (s_0 : (Int × Int × Int × Int × Int × Unit)) (kr0 : Int → Option R) : Option R :=
  (bif (decide (s_0.1 < (2 : Int))) then (kr0 (1 : Int)) else (bif (decide ((128 : Int) < s_0.1)) then (kr0 (1 : Int)) else (bif (decide (s_0.2.1 < (1 : Int))) then (kr0 (6 : Int)) else (bif (decide ((6 : Int) < s_0.2.1)) then (kr0 (6 : Int)) else (bif (decide (s_0.2.2.1 < (1 : Int))) then (kr0 (3 : Int)) else (bif (decide ((3 : Int) < s_0.2.2.1)) then (kr0 (3 : Int)) else (bif (decide (s_0.2.2.1 = (2 : Int))) then (bif (decide (s_0.2.2.2.1 < (1 : Int))) then (kr0 (5 : Int)) else (bif (decide (s_0.2.2.2.2.1 < s_0.2.2.2.1)) then (kr0 (5 : Int)) else (bif (decide ((99 : Int) < s_0.2.2.2.2.1)) then (kr0 (5 : Int)) else (bif (decide (s_0.2.2.1 = (1 : Int))) then (bif (!(decide (s_0.2.2.2.1 = s_0.2.2.2.2.1))) then (kr0 (5 : Int)) else (bif (decide (s_0.2.2.1 = (1 : Int))) then (bif (decide (s_0.2.1 = (6 : Int))) then (kr0 (13 : Int)) else (kr0 (0 : Int))) else (kr0 (0 : Int)))) else (bif (decide (s_0.2.2.1 = (1 : Int))) then (bif (decide (s_0.2.1 = (6 : Int))) then (kr0 (13 : Int)) else (kr0 (0 : Int))) else (kr0 (0 : Int))))))) else (bif (decide (s_0.2.2.2.1 < (1 : Int))) then (kr0 (5 : Int)) else (bif (decide (s_0.2.2.2.2.1 < s_0.2.2.2.1)) then (kr0 (5 : Int)) else (bif (decide ((999 : Int) < s_0.2.2.2.2.1)) then (kr0 (5 : Int)) else (bif (decide (s_0.2.2.1 = (1 : Int))) then (bif (!(decide (s_0.2.2.2.1 = s_0.2.2.2.2.1))) then (kr0 (5 : Int)) else (bif (decide (s_0.2.2.1 = (1 : Int))) then (bif (decide (s_0.2.1 = (6 : Int))) then (kr0 (13 : Int)) else (kr0 (0 : Int))) else (kr0 (0 : Int)))) else (bif (decide (s_0.2.2.1 = (1 : Int))) then (bif (decide (s_0.2.1 = (6 : Int))) then (kr0 (13 : Int)) else (kr0 (0 : Int))) else (kr0 (0 : Int))))))))))))))
theorem groatref11_Check_s0_bind {R S : Type} (F : R → Option S) (s_0 : (Int × Int × Int × Int × Int × Unit)) (kr0 : Int → Option R) : (groatref11_Check_s0 s_0 kr0).bind F = groatref11_Check_s0 s_0 (fun a0 => (kr0 a0).bind F) := by
  simp only [groatref11_Check_s0, cond_bind, within_bind, none_bind, some_bind, sum_bind, bind_bind]
def groatref11_Check (s_0 : (Int × Int × Int × Int × Int × Unit)) : Option Int :=
  groatref11_Check_s0 s_0 (fun a0 => some a0)
def groatref11_Wider_s0 {R : Type} (a_0 : (Int × Int × Int × Int × Int × Unit)) (b_1 : (Int × Int × Int × Int × Int × Unit)) (kr0 : Bool → Option R) : Option R :=
  ((groatref11_Check a_0).bind fun r1 => (bif (!(decide (r1 = (0 : Int)))) then (kr0 false) else ((groatref11_Check b_1).bind fun r2 => (bif (!(decide (r2 = (0 : Int)))) then (kr0 false) else (bif (decide (b_1.2.2.2.1 < a_0.2.2.2.1)) then (kr0 false) else (bif (decide (a_0.2.2.2.2.1 < b_1.2.2.2.2.1)) then (kr0 false) else (bif (decide (a_0.2.1 = (5 : Int))) then (kr0 true) else (bif (decide (a_0.2.1 = (6 : Int))) then (kr0 (decide (a_0.2.1 = b_1.2.1))) else (bif (decide (b_1.2.1 = (6 : Int))) then (kr0 (decide (a_0.2.1 = b_1.2.1))) else ((groatref04_Wider a_0.2.1 b_1.2.1).bind fun r3 => (kr0 r3)))))))))))
theorem groatref11_Wider_s0_bind {R S : Type} (F : R → Option S) (a_0 : (Int × Int × Int × Int × Int × Unit)) (b_1 : (Int × Int × Int × Int × Int × Unit)) (kr0 : Bool → Option R) : (groatref11_Wider_s0 a_0 b_1 kr0).bind F = groatref11_Wider_s0 a_0 b_1 (fun a0 => (kr0 a0).bind F) := by
  simp only [groatref11_Wider_s0, cond_bind, within_bind, none_bind, some_bind, sum_bind, bind_bind]
def groatref11_Wider (a_0 : (Int × Int × Int × Int × Int × Unit)) (b_1 : (Int × Int × Int × Int × Int × Unit)) : Option Bool :=
  groatref11_Wider_s0 a_0 b_1 (fun a0 => some a0)
def groatref11_Value_s0 {R : Type} (s_0 : (Int × Int × Int × Int × Int × Unit)) (text_1 : ByteArray) (kr0 : Int → Option R) : Option R :=
  ((groatref11_Check s_0).bind fun r1 => (bif (!(decide (r1 = (0 : Int)))) then (kr0 (1 : Int)) else (bif (decide (((text_1).size : Int) < s_0.2.2.2.1)) then (kr0 (5 : Int)) else (bif (decide (s_0.2.2.2.2.1 < ((text_1).size : Int))) then (kr0 (5 : Int)) else ((groatref04_First s_0.2.1 text_1).bind fun r2 => (bif (decide ((0 : Int) ≤ r2)) then (kr0 (6 : Int)) else (bif (decide (s_0.2.1 = (6 : Int))) then ((groatref10_Get text_1).bind fun r3 => (Sum.elim (fun (wr3 : ((List (Int × ByteArray × Unit)) × Int × Int)) => (bif (!(decide (wr3.2.1 = (0 : Int)))) then (kr0 (13 : Int)) else (kr0 (0 : Int)))) (fun (wr3 : ((List (Int × ByteArray × Unit)) × Int × Int)) => (bif (!(decide (wr3.2.1 = (0 : Int)))) then (kr0 (13 : Int)) else (kr0 (0 : Int)))) r3)) else (kr0 (0 : Int)))))))))
theorem groatref11_Value_s0_bind {R S : Type} (F : R → Option S) (s_0 : (Int × Int × Int × Int × Int × Unit)) (text_1 : ByteArray) (kr0 : Int → Option R) : (groatref11_Value_s0 s_0 text_1 kr0).bind F = groatref11_Value_s0 s_0 text_1 (fun a0 => (kr0 a0).bind F) := by
  simp only [groatref11_Value_s0, cond_bind, within_bind, none_bind, some_bind, sum_bind, bind_bind]
def groatref11_Value (s_0 : (Int × Int × Int × Int × Int × Unit)) (text_1 : ByteArray) : Option Int :=
  groatref11_Value_s0 s_0 text_1 (fun a0 => some a0)
end Groat

/- The functions of groatref13 as plain Lean. -/
set_option linter.unusedVariables false
set_option linter.unusedSimpArgs false
set_option maxRecDepth 100000
namespace Groat
open Go Go.Ref
def groatref13_Copy_s0 {R : Type} (s_0 : (Int × Int × (List (Int × Int × Int × Int × Int × Unit)) × Unit)) (kr0 : (Int × Int × (List (Int × Int × Int × Int × Int × Unit)) × Unit) → Option R) : Option R :=
  (bif (decide (((List.length ([] : List (Int × Int × Int × Int × Int × Unit))) + (List.length s_0.2.2.1)) * 40 ≤ 140737488355328)) then (kr0 (s_0.1, s_0.2.1, (([] : List (Int × Int × Int × Int × Int × Unit)) ++ s_0.2.2.1), ())) else none)
theorem groatref13_Copy_s0_bind {R S : Type} (F : R → Option S) (s_0 : (Int × Int × (List (Int × Int × Int × Int × Int × Unit)) × Unit)) (kr0 : (Int × Int × (List (Int × Int × Int × Int × Int × Unit)) × Unit) → Option R) : (groatref13_Copy_s0 s_0 kr0).bind F = groatref13_Copy_s0 s_0 (fun a0 => (kr0 a0).bind F) := by
  simp only [groatref13_Copy_s0, cond_bind, within_bind, none_bind, some_bind, sum_bind, bind_bind]
def groatref13_Copy (s_0 : (Int × Int × (List (Int × Int × Int × Int × Int × Unit)) × Unit)) : Option (Int × Int × (List (Int × Int × Int × Int × Int × Unit)) × Unit) :=
  groatref13_Copy_s0 s_0 (fun a0 => some a0)
def groatref13_Check_s0 {R : Type} (s_0 : (Int × Int × (List (Int × Int × Int × Int × Int × Unit)) × Unit)) (kr0 : Int → Int → Option R) (go0 : Int → Int → (Int × Int × (List (Int × Int × Int × Int × Int × Unit)) × Unit) → Option R) : Option R :=
  (bif (!(decide (s_0.1 = (1 : Int)))) then (bif (!(decide (s_0.1 = (2 : Int)))) then (kr0 (1 : Int) (-1 : Int)) else (bif (decide (s_0.2.1 < (0 : Int))) then (kr0 (7 : Int) (-1 : Int)) else (bif (decide ((9 : Int) < s_0.2.1)) then (kr0 (7 : Int) (-1 : Int)) else (go0 (0 : Int) (0 : Int) s_0)))) else (bif (decide (s_0.2.1 < (0 : Int))) then (kr0 (7 : Int) (-1 : Int)) else (bif (decide ((9 : Int) < s_0.2.1)) then (kr0 (7 : Int) (-1 : Int)) else (go0 (0 : Int) (0 : Int) s_0))))
theorem groatref13_Check_s0_bind {R S : Type} (F : R → Option S) (s_0 : (Int × Int × (List (Int × Int × Int × Int × Int × Unit)) × Unit)) (kr0 : Int → Int → Option R) (go0 : Int → Int → (Int × Int × (List (Int × Int × Int × Int × Int × Unit)) × Unit) → Option R) : (groatref13_Check_s0 s_0 kr0 go0).bind F = groatref13_Check_s0 s_0 (fun a0 a1 => (kr0 a0 a1).bind F) (fun a0 a1 a2 => (go0 a0 a1 a2).bind F) := by
  simp only [groatref13_Check_s0, cond_bind, within_bind, none_bind, some_bind, sum_bind, bind_bind]
def groatref13_Check_s1 {R : Type} (t4 : Int) (t5 : Int) (bt1 : (Int × Int × (List (Int × Int × Int × Int × Int × Unit)) × Unit)) (ex0_0 : Int → Int → Option R) (nx0 : Int → Int → (Int × Int × (List (Int × Int × Int × Int × Int × Unit)) × Unit) → Option R) (ex0_1 : Option R) : Option R :=
  (bif (decide (t5 < ((List.length bt1.2.2.1) : Int))) then (within t5 (List.length bt1.2.2.1) ((groatref11_Check (List.getD bt1.2.2.1 (t5).toNat ((0 : Int), (0 : Int), (0 : Int), (0 : Int), (0 : Int), ()))).bind fun r1 => (bif (!(decide (r1 = (0 : Int)))) then (ex0_0 r1 t5) else (within t5 (List.length bt1.2.2.1) (bif (decide ((List.getD bt1.2.2.1 (t5).toNat ((0 : Int), (0 : Int), (0 : Int), (0 : Int), (0 : Int), ())).1 ≤ t4)) then (ex0_0 (11 : Int) t5) else (within t5 (List.length bt1.2.2.1) (nx0 (List.getD bt1.2.2.1 (t5).toNat ((0 : Int), (0 : Int), (0 : Int), (0 : Int), (0 : Int), ())).1 (IntKind.i64.wrap (t5 + (1 : Int))) bt1))))))) else (ex0_1))
theorem groatref13_Check_s1_bind {R S : Type} (F : R → Option S) (t4 : Int) (t5 : Int) (bt1 : (Int × Int × (List (Int × Int × Int × Int × Int × Unit)) × Unit)) (ex0_0 : Int → Int → Option R) (nx0 : Int → Int → (Int × Int × (List (Int × Int × Int × Int × Int × Unit)) × Unit) → Option R) (ex0_1 : Option R) : (groatref13_Check_s1 t4 t5 bt1 ex0_0 nx0 ex0_1).bind F = groatref13_Check_s1 t4 t5 bt1 (fun a0 a1 => (ex0_0 a0 a1).bind F) (fun a0 a1 a2 => (nx0 a0 a1 a2).bind F) ((ex0_1).bind F) := by
  simp only [groatref13_Check_s1, cond_bind, within_bind, none_bind, some_bind, sum_bind, bind_bind]
def groatref13_Check_s2 {R : Type} (t2 : Int) (t3 : Int) (kr0 : Int → Int → Option R) : Option R :=
  (kr0 t2 t3)
theorem groatref13_Check_s2_bind {R S : Type} (F : R → Option S) (t2 : Int) (t3 : Int) (kr0 : Int → Int → Option R) : (groatref13_Check_s2 t2 t3 kr0).bind F = groatref13_Check_s2 t2 t3 (fun a0 a1 => (kr0 a0 a1).bind F) := by
  simp only [groatref13_Check_s2, cond_bind, within_bind, none_bind, some_bind, sum_bind, bind_bind]
def groatref13_Check_s3 {R : Type}  (kr0 : Int → Int → Option R) : Option R :=
  (kr0 (0 : Int) (0 : Int))
theorem groatref13_Check_s3_bind {R S : Type} (F : R → Option S)  (kr0 : Int → Int → Option R) : (groatref13_Check_s3 kr0).bind F = groatref13_Check_s3 (fun a0 a1 => (kr0 a0 a1).bind F) := by
  simp only [groatref13_Check_s3, cond_bind, within_bind, none_bind, some_bind, sum_bind, bind_bind]
def groatref13_Check_l0 : Nat → Int → Int → (Int × Int × (List (Int × Int × Int × Int × Int × Unit)) × Unit) → Option (Sum (Int × Int) Unit)
  | 0, _, _, _ => none
  | k + 1, v0, v1, v2 => groatref13_Check_s1 v0 v1 v2 (fun a0 a1 => some (.inl (a0, a1))) (fun a0 a1 a2 => groatref13_Check_l0 k a0 a1 a2) (some (.inr ()))
def groatref13_Check (s_0 : (Int × Int × (List (Int × Int × Int × Int × Int × Unit)) × Unit)) : Option (Int × Int) :=
  groatref13_Check_s0 s_0 (fun a0 a1 => some (a0, a1)) (fun a0 a1 a2 => (groatref13_Check_l0 FUEL a0 a1 a2).bind fun e => (Sum.elim (fun (we : (Int × Int)) => groatref13_Check_s2 we.1 we.2 (fun a0 a1 => some (a0, a1))) (fun (we : Unit) => groatref13_Check_s3 (fun a0 a1 => some (a0, a1))) e))
def groatref13_Same_s0 {R : Type} (a_0 : (Int × Int × (List (Int × Int × Int × Int × Int × Unit)) × Unit)) (b_1 : (Int × Int × (List (Int × Int × Int × Int × Int × Unit)) × Unit)) (kr0 : Bool → Option R) (go0 : Int → (Int × Int × (List (Int × Int × Int × Int × Int × Unit)) × Unit) → (Int × Int × (List (Int × Int × Int × Int × Int × Unit)) × Unit) → Option R) : Option R :=
  (bif (!(decide (a_0.1 = b_1.1))) then (kr0 false) else (bif (!(decide (a_0.2.1 = b_1.2.1))) then (kr0 false) else (bif (!(decide (((List.length a_0.2.2.1) : Int) = ((List.length b_1.2.2.1) : Int)))) then (kr0 false) else (go0 (0 : Int) a_0 b_1))))
theorem groatref13_Same_s0_bind {R S : Type} (F : R → Option S) (a_0 : (Int × Int × (List (Int × Int × Int × Int × Int × Unit)) × Unit)) (b_1 : (Int × Int × (List (Int × Int × Int × Int × Int × Unit)) × Unit)) (kr0 : Bool → Option R) (go0 : Int → (Int × Int × (List (Int × Int × Int × Int × Int × Unit)) × Unit) → (Int × Int × (List (Int × Int × Int × Int × Int × Unit)) × Unit) → Option R) : (groatref13_Same_s0 a_0 b_1 kr0 go0).bind F = groatref13_Same_s0 a_0 b_1 (fun a0 => (kr0 a0).bind F) (fun a0 a1 a2 => (go0 a0 a1 a2).bind F) := by
  simp only [groatref13_Same_s0, cond_bind, within_bind, none_bind, some_bind, sum_bind, bind_bind]
def groatref13_Same_s1 {R : Type} (t5 : Int) (bt2 : (Int × Int × (List (Int × Int × Int × Int × Int × Unit)) × Unit)) (bt3 : (Int × Int × (List (Int × Int × Int × Int × Int × Unit)) × Unit)) (ex0_0 : Bool → Option R) (nx0 : Int → (Int × Int × (List (Int × Int × Int × Int × Int × Unit)) × Unit) → (Int × Int × (List (Int × Int × Int × Int × Int × Unit)) × Unit) → Option R) (ex0_1 : Option R) : Option R :=
  (bif (decide (t5 < ((List.length bt2.2.2.1) : Int))) then (within t5 (List.length bt2.2.2.1) (within t5 (List.length bt3.2.2.1) (bif (!((decide ((List.getD bt2.2.2.1 (t5).toNat ((0 : Int), (0 : Int), (0 : Int), (0 : Int), (0 : Int), ())).1 = (List.getD bt3.2.2.1 (t5).toNat ((0 : Int), (0 : Int), (0 : Int), (0 : Int), (0 : Int), ())).1)) && ((decide ((List.getD bt2.2.2.1 (t5).toNat ((0 : Int), (0 : Int), (0 : Int), (0 : Int), (0 : Int), ())).2.1 = (List.getD bt3.2.2.1 (t5).toNat ((0 : Int), (0 : Int), (0 : Int), (0 : Int), (0 : Int), ())).2.1)) && ((decide ((List.getD bt2.2.2.1 (t5).toNat ((0 : Int), (0 : Int), (0 : Int), (0 : Int), (0 : Int), ())).2.2.1 = (List.getD bt3.2.2.1 (t5).toNat ((0 : Int), (0 : Int), (0 : Int), (0 : Int), (0 : Int), ())).2.2.1)) && ((decide ((List.getD bt2.2.2.1 (t5).toNat ((0 : Int), (0 : Int), (0 : Int), (0 : Int), (0 : Int), ())).2.2.2.1 = (List.getD bt3.2.2.1 (t5).toNat ((0 : Int), (0 : Int), (0 : Int), (0 : Int), (0 : Int), ())).2.2.2.1)) && ((decide ((List.getD bt2.2.2.1 (t5).toNat ((0 : Int), (0 : Int), (0 : Int), (0 : Int), (0 : Int), ())).2.2.2.2.1 = (List.getD bt3.2.2.1 (t5).toNat ((0 : Int), (0 : Int), (0 : Int), (0 : Int), (0 : Int), ())).2.2.2.2.1)) && true)))))) then (ex0_0 false) else (nx0 (IntKind.i64.wrap (t5 + (1 : Int))) bt2 bt3)))) else (ex0_1))
theorem groatref13_Same_s1_bind {R S : Type} (F : R → Option S) (t5 : Int) (bt2 : (Int × Int × (List (Int × Int × Int × Int × Int × Unit)) × Unit)) (bt3 : (Int × Int × (List (Int × Int × Int × Int × Int × Unit)) × Unit)) (ex0_0 : Bool → Option R) (nx0 : Int → (Int × Int × (List (Int × Int × Int × Int × Int × Unit)) × Unit) → (Int × Int × (List (Int × Int × Int × Int × Int × Unit)) × Unit) → Option R) (ex0_1 : Option R) : (groatref13_Same_s1 t5 bt2 bt3 ex0_0 nx0 ex0_1).bind F = groatref13_Same_s1 t5 bt2 bt3 (fun a0 => (ex0_0 a0).bind F) (fun a0 a1 a2 => (nx0 a0 a1 a2).bind F) ((ex0_1).bind F) := by
  simp only [groatref13_Same_s1, cond_bind, within_bind, none_bind, some_bind, sum_bind, bind_bind]
def groatref13_Same_s2 {R : Type} (t4 : Bool) (kr0 : Bool → Option R) : Option R :=
  (kr0 t4)
theorem groatref13_Same_s2_bind {R S : Type} (F : R → Option S) (t4 : Bool) (kr0 : Bool → Option R) : (groatref13_Same_s2 t4 kr0).bind F = groatref13_Same_s2 t4 (fun a0 => (kr0 a0).bind F) := by
  simp only [groatref13_Same_s2, cond_bind, within_bind, none_bind, some_bind, sum_bind, bind_bind]
def groatref13_Same_s3 {R : Type}  (kr0 : Bool → Option R) : Option R :=
  (kr0 true)
theorem groatref13_Same_s3_bind {R S : Type} (F : R → Option S)  (kr0 : Bool → Option R) : (groatref13_Same_s3 kr0).bind F = groatref13_Same_s3 (fun a0 => (kr0 a0).bind F) := by
  simp only [groatref13_Same_s3, cond_bind, within_bind, none_bind, some_bind, sum_bind, bind_bind]
def groatref13_Same_l0 : Nat → Int → (Int × Int × (List (Int × Int × Int × Int × Int × Unit)) × Unit) → (Int × Int × (List (Int × Int × Int × Int × Int × Unit)) × Unit) → Option (Sum Bool Unit)
  | 0, _, _, _ => none
  | k + 1, v0, v1, v2 => groatref13_Same_s1 v0 v1 v2 (fun a0 => some (.inl a0)) (fun a0 a1 a2 => groatref13_Same_l0 k a0 a1 a2) (some (.inr ()))
def groatref13_Same (a_0 : (Int × Int × (List (Int × Int × Int × Int × Int × Unit)) × Unit)) (b_1 : (Int × Int × (List (Int × Int × Int × Int × Int × Unit)) × Unit)) : Option Bool :=
  groatref13_Same_s0 a_0 b_1 (fun a0 => some a0) (fun a0 a1 a2 => (groatref13_Same_l0 FUEL a0 a1 a2).bind fun e => (Sum.elim (fun (we : Bool) => groatref13_Same_s2 we (fun a0 => some a0)) (fun (we : Unit) => groatref13_Same_s3 (fun a0 => some a0)) e))
def groatref13_Find_s0 {R : Type} (s_0 : (Int × Int × (List (Int × Int × Int × Int × Int × Unit)) × Unit)) (no_1 : Int) (go0 : Int → Int → (Int × Int × (List (Int × Int × Int × Int × Int × Unit)) × Unit) → Option R) : Option R :=
  (go0 no_1 (0 : Int) s_0)
theorem groatref13_Find_s0_bind {R S : Type} (F : R → Option S) (s_0 : (Int × Int × (List (Int × Int × Int × Int × Int × Unit)) × Unit)) (no_1 : Int) (go0 : Int → Int → (Int × Int × (List (Int × Int × Int × Int × Int × Unit)) × Unit) → Option R) : (groatref13_Find_s0 s_0 no_1 go0).bind F = groatref13_Find_s0 s_0 no_1 (fun a0 a1 a2 => (go0 a0 a1 a2).bind F) := by
  simp only [groatref13_Find_s0, cond_bind, within_bind, none_bind, some_bind, sum_bind, bind_bind]
def groatref13_Find_s1 {R : Type} (no_1 : Int) (t5 : Int) (bt2 : (Int × Int × (List (Int × Int × Int × Int × Int × Unit)) × Unit)) (ex0_0 : Int → Option R) (nx0 : Int → Int → (Int × Int × (List (Int × Int × Int × Int × Int × Unit)) × Unit) → Option R) (ex0_1 : Option R) : Option R :=
  (bif (decide (t5 < ((List.length bt2.2.2.1) : Int))) then (within t5 (List.length bt2.2.2.1) (bif (decide ((List.getD bt2.2.2.1 (t5).toNat ((0 : Int), (0 : Int), (0 : Int), (0 : Int), (0 : Int), ())).1 = no_1)) then (ex0_0 t5) else (nx0 no_1 (IntKind.i64.wrap (t5 + (1 : Int))) bt2))) else (ex0_1))
theorem groatref13_Find_s1_bind {R S : Type} (F : R → Option S) (no_1 : Int) (t5 : Int) (bt2 : (Int × Int × (List (Int × Int × Int × Int × Int × Unit)) × Unit)) (ex0_0 : Int → Option R) (nx0 : Int → Int → (Int × Int × (List (Int × Int × Int × Int × Int × Unit)) × Unit) → Option R) (ex0_1 : Option R) : (groatref13_Find_s1 no_1 t5 bt2 ex0_0 nx0 ex0_1).bind F = groatref13_Find_s1 no_1 t5 bt2 (fun a0 => (ex0_0 a0).bind F) (fun a0 a1 a2 => (nx0 a0 a1 a2).bind F) ((ex0_1).bind F) := by
  simp only [groatref13_Find_s1, cond_bind, within_bind, none_bind, some_bind, sum_bind, bind_bind]
def groatref13_Find_s2 {R : Type} (t4 : Int) (kr0 : Int → Option R) : Option R :=
  (kr0 t4)
theorem groatref13_Find_s2_bind {R S : Type} (F : R → Option S) (t4 : Int) (kr0 : Int → Option R) : (groatref13_Find_s2 t4 kr0).bind F = groatref13_Find_s2 t4 (fun a0 => (kr0 a0).bind F) := by
  simp only [groatref13_Find_s2, cond_bind, within_bind, none_bind, some_bind, sum_bind, bind_bind]
def groatref13_Find_s3 {R : Type}  (kr0 : Int → Option R) : Option R :=
  (kr0 (-1 : Int))
theorem groatref13_Find_s3_bind {R S : Type} (F : R → Option S)  (kr0 : Int → Option R) : (groatref13_Find_s3 kr0).bind F = groatref13_Find_s3 (fun a0 => (kr0 a0).bind F) := by
  simp only [groatref13_Find_s3, cond_bind, within_bind, none_bind, some_bind, sum_bind, bind_bind]
def groatref13_Find_l0 : Nat → Int → Int → (Int × Int × (List (Int × Int × Int × Int × Int × Unit)) × Unit) → Option (Sum Int Unit)
  | 0, _, _, _ => none
  | k + 1, v0, v1, v2 => groatref13_Find_s1 v0 v1 v2 (fun a0 => some (.inl a0)) (fun a0 a1 a2 => groatref13_Find_l0 k a0 a1 a2) (some (.inr ()))
def groatref13_Find (s_0 : (Int × Int × (List (Int × Int × Int × Int × Int × Unit)) × Unit)) (no_1 : Int) : Option Int :=
  groatref13_Find_s0 s_0 no_1 (fun a0 a1 a2 => (groatref13_Find_l0 FUEL a0 a1 a2).bind fun e => (Sum.elim (fun (we : Int) => groatref13_Find_s2 we (fun a0 => some a0)) (fun (we : Unit) => groatref13_Find_s3 (fun a0 => some a0)) e))
def groatref13_Numbers_s0 {R : Type} (s_0 : (Int × Int × (List (Int × Int × Int × Int × Int × Unit)) × Unit)) (go0 : (List Int) → Int → (Int × Int × (List (Int × Int × Int × Int × Int × Unit)) × Unit) → Option R) : Option R :=
  (go0 ([] : List Int) (0 : Int) s_0)
theorem groatref13_Numbers_s0_bind {R S : Type} (F : R → Option S) (s_0 : (Int × Int × (List (Int × Int × Int × Int × Int × Unit)) × Unit)) (go0 : (List Int) → Int → (Int × Int × (List (Int × Int × Int × Int × Int × Unit)) × Unit) → Option R) : (groatref13_Numbers_s0 s_0 go0).bind F = groatref13_Numbers_s0 s_0 (fun a0 a1 a2 => (go0 a0 a1 a2).bind F) := by
  simp only [groatref13_Numbers_s0, cond_bind, within_bind, none_bind, some_bind, sum_bind, bind_bind]
def groatref13_Numbers_s1 {R : Type} (t3 : (List Int)) (t4 : Int) (bt1 : (Int × Int × (List (Int × Int × Int × Int × Int × Unit)) × Unit)) (nx0 : (List Int) → Int → (Int × Int × (List (Int × Int × Int × Int × Int × Unit)) × Unit) → Option R) (ex0_0 : (List Int) → Option R) : Option R :=
  (bif (decide (t4 < ((List.length bt1.2.2.1) : Int))) then (within t4 (List.length bt1.2.2.1) (bif (decide (((List.length t3) + (List.length ([(List.getD bt1.2.2.1 (t4).toNat ((0 : Int), (0 : Int), (0 : Int), (0 : Int), (0 : Int), ())).1] : List Int))) * 8 ≤ 140737488355328)) then (nx0 (t3 ++ ([(List.getD bt1.2.2.1 (t4).toNat ((0 : Int), (0 : Int), (0 : Int), (0 : Int), (0 : Int), ())).1] : List Int)) (IntKind.i64.wrap (t4 + (1 : Int))) bt1) else none)) else (ex0_0 t3))
theorem groatref13_Numbers_s1_bind {R S : Type} (F : R → Option S) (t3 : (List Int)) (t4 : Int) (bt1 : (Int × Int × (List (Int × Int × Int × Int × Int × Unit)) × Unit)) (nx0 : (List Int) → Int → (Int × Int × (List (Int × Int × Int × Int × Int × Unit)) × Unit) → Option R) (ex0_0 : (List Int) → Option R) : (groatref13_Numbers_s1 t3 t4 bt1 nx0 ex0_0).bind F = groatref13_Numbers_s1 t3 t4 bt1 (fun a0 a1 a2 => (nx0 a0 a1 a2).bind F) (fun a0 => (ex0_0 a0).bind F) := by
  simp only [groatref13_Numbers_s1, cond_bind, within_bind, none_bind, some_bind, sum_bind, bind_bind]
def groatref13_Numbers_s2 {R : Type} (t3 : (List Int)) (kr0 : (List Int) → Option R) : Option R :=
  (kr0 t3)
theorem groatref13_Numbers_s2_bind {R S : Type} (F : R → Option S) (t3 : (List Int)) (kr0 : (List Int) → Option R) : (groatref13_Numbers_s2 t3 kr0).bind F = groatref13_Numbers_s2 t3 (fun a0 => (kr0 a0).bind F) := by
  simp only [groatref13_Numbers_s2, cond_bind, within_bind, none_bind, some_bind, sum_bind, bind_bind]
def groatref13_Numbers_l0 : Nat → (List Int) → Int → (Int × Int × (List (Int × Int × Int × Int × Int × Unit)) × Unit) → Option (List Int)
  | 0, _, _, _ => none
  | k + 1, v0, v1, v2 => groatref13_Numbers_s1 v0 v1 v2 (fun a0 a1 a2 => groatref13_Numbers_l0 k a0 a1 a2) (fun a0 => some a0)
def groatref13_Numbers (s_0 : (Int × Int × (List (Int × Int × Int × Int × Int × Unit)) × Unit)) : Option (List Int) :=
  groatref13_Numbers_s0 s_0 (fun a0 a1 a2 => (groatref13_Numbers_l0 FUEL a0 a1 a2).bind fun e => groatref13_Numbers_s2 e (fun a0 => some a0))
def groatref13_Right_s0 {R : Type} (s_0 : (Int × Int × (List (Int × Int × Int × Int × Int × Unit)) × Unit)) (kr0 : Bool → Option R) : Option R :=
  ((groatref13_Check s_0).bind fun r1 => (kr0 (decide (r1.1 = (0 : Int)))))
theorem groatref13_Right_s0_bind {R S : Type} (F : R → Option S) (s_0 : (Int × Int × (List (Int × Int × Int × Int × Int × Unit)) × Unit)) (kr0 : Bool → Option R) : (groatref13_Right_s0 s_0 kr0).bind F = groatref13_Right_s0 s_0 (fun a0 => (kr0 a0).bind F) := by
  simp only [groatref13_Right_s0, cond_bind, within_bind, none_bind, some_bind, sum_bind, bind_bind]
def groatref13_Right (s_0 : (Int × Int × (List (Int × Int × Int × Int × Int × Unit)) × Unit)) : Option Bool :=
  groatref13_Right_s0 s_0 (fun a0 => some a0)
end Groat

/- The functions of slices as plain Lean. -/
set_option linter.unusedVariables false
set_option linter.unusedSimpArgs false
set_option maxRecDepth 100000
namespace Groat
open Go Go.Ref
def slices_Equal_api_Spec_api_Spec_s0 {R : Type} (a_0 : (List (Int × Int × Int × Int × Int × Unit))) (a_1 : (List (Int × Int × Int × Int × Int × Unit))) (kr0 : Bool → Option R) (go0 : (List (Int × Int × Int × Int × Int × Unit)) → (List (Int × Int × Int × Int × Int × Unit)) → Int → Int → Option R) : Option R :=
  (bif (!(decide (((List.length a_0) : Int) = ((List.length a_1) : Int)))) then (kr0 false) else (go0 a_0 a_1 ((List.length a_0) : Int) (0 : Int)))
theorem slices_Equal_api_Spec_api_Spec_s0_bind {R S : Type} (F : R → Option S) (a_0 : (List (Int × Int × Int × Int × Int × Unit))) (a_1 : (List (Int × Int × Int × Int × Int × Unit))) (kr0 : Bool → Option R) (go0 : (List (Int × Int × Int × Int × Int × Unit)) → (List (Int × Int × Int × Int × Int × Unit)) → Int → Int → Option R) : (slices_Equal_api_Spec_api_Spec_s0 a_0 a_1 kr0 go0).bind F = slices_Equal_api_Spec_api_Spec_s0 a_0 a_1 (fun a0 => (kr0 a0).bind F) (fun a0 a1 a2 a3 => (go0 a0 a1 a2 a3).bind F) := by
  simp only [slices_Equal_api_Spec_api_Spec_s0, cond_bind, within_bind, none_bind, some_bind, sum_bind, bind_bind]
def slices_Equal_api_Spec_api_Spec_s1 {R : Type} (a_0 : (List (Int × Int × Int × Int × Int × Unit))) (a_1 : (List (Int × Int × Int × Int × Int × Unit))) (t12 : Int) (t13 : Int) (ex0_0 : Bool → Option R) (nx0 : (List (Int × Int × Int × Int × Int × Unit)) → (List (Int × Int × Int × Int × Int × Unit)) → Int → Int → Option R) (ex0_1 : Option R) : Option R :=
  (bif (decide (t13 < t12)) then (within t13 (List.length a_0) (within t13 (List.length a_1) (bif (!((decide ((List.getD a_0 (t13).toNat ((0 : Int), (0 : Int), (0 : Int), (0 : Int), (0 : Int), ())).1 = (List.getD a_1 (t13).toNat ((0 : Int), (0 : Int), (0 : Int), (0 : Int), (0 : Int), ())).1)) && ((decide ((List.getD a_0 (t13).toNat ((0 : Int), (0 : Int), (0 : Int), (0 : Int), (0 : Int), ())).2.1 = (List.getD a_1 (t13).toNat ((0 : Int), (0 : Int), (0 : Int), (0 : Int), (0 : Int), ())).2.1)) && ((decide ((List.getD a_0 (t13).toNat ((0 : Int), (0 : Int), (0 : Int), (0 : Int), (0 : Int), ())).2.2.1 = (List.getD a_1 (t13).toNat ((0 : Int), (0 : Int), (0 : Int), (0 : Int), (0 : Int), ())).2.2.1)) && ((decide ((List.getD a_0 (t13).toNat ((0 : Int), (0 : Int), (0 : Int), (0 : Int), (0 : Int), ())).2.2.2.1 = (List.getD a_1 (t13).toNat ((0 : Int), (0 : Int), (0 : Int), (0 : Int), (0 : Int), ())).2.2.2.1)) && ((decide ((List.getD a_0 (t13).toNat ((0 : Int), (0 : Int), (0 : Int), (0 : Int), (0 : Int), ())).2.2.2.2.1 = (List.getD a_1 (t13).toNat ((0 : Int), (0 : Int), (0 : Int), (0 : Int), (0 : Int), ())).2.2.2.2.1)) && true)))))) then (ex0_0 false) else (nx0 a_0 a_1 t12 (IntKind.i64.wrap (t13 + (1 : Int))))))) else (ex0_1))
theorem slices_Equal_api_Spec_api_Spec_s1_bind {R S : Type} (F : R → Option S) (a_0 : (List (Int × Int × Int × Int × Int × Unit))) (a_1 : (List (Int × Int × Int × Int × Int × Unit))) (t12 : Int) (t13 : Int) (ex0_0 : Bool → Option R) (nx0 : (List (Int × Int × Int × Int × Int × Unit)) → (List (Int × Int × Int × Int × Int × Unit)) → Int → Int → Option R) (ex0_1 : Option R) : (slices_Equal_api_Spec_api_Spec_s1 a_0 a_1 t12 t13 ex0_0 nx0 ex0_1).bind F = slices_Equal_api_Spec_api_Spec_s1 a_0 a_1 t12 t13 (fun a0 => (ex0_0 a0).bind F) (fun a0 a1 a2 a3 => (nx0 a0 a1 a2 a3).bind F) ((ex0_1).bind F) := by
  simp only [slices_Equal_api_Spec_api_Spec_s1, cond_bind, within_bind, none_bind, some_bind, sum_bind, bind_bind]
def slices_Equal_api_Spec_api_Spec_s2 {R : Type} (t4 : Bool) (kr0 : Bool → Option R) : Option R :=
  (kr0 t4)
theorem slices_Equal_api_Spec_api_Spec_s2_bind {R S : Type} (F : R → Option S) (t4 : Bool) (kr0 : Bool → Option R) : (slices_Equal_api_Spec_api_Spec_s2 t4 kr0).bind F = slices_Equal_api_Spec_api_Spec_s2 t4 (fun a0 => (kr0 a0).bind F) := by
  simp only [slices_Equal_api_Spec_api_Spec_s2, cond_bind, within_bind, none_bind, some_bind, sum_bind, bind_bind]
def slices_Equal_api_Spec_api_Spec_s3 {R : Type}  (kr0 : Bool → Option R) : Option R :=
  (kr0 true)
theorem slices_Equal_api_Spec_api_Spec_s3_bind {R S : Type} (F : R → Option S)  (kr0 : Bool → Option R) : (slices_Equal_api_Spec_api_Spec_s3 kr0).bind F = slices_Equal_api_Spec_api_Spec_s3 (fun a0 => (kr0 a0).bind F) := by
  simp only [slices_Equal_api_Spec_api_Spec_s3, cond_bind, within_bind, none_bind, some_bind, sum_bind, bind_bind]
def slices_Equal_api_Spec_api_Spec_l0 : Nat → (List (Int × Int × Int × Int × Int × Unit)) → (List (Int × Int × Int × Int × Int × Unit)) → Int → Int → Option (Sum Bool Unit)
  | 0, _, _, _, _ => none
  | k + 1, v0, v1, v2, v3 => slices_Equal_api_Spec_api_Spec_s1 v0 v1 v2 v3 (fun a0 => some (.inl a0)) (fun a0 a1 a2 a3 => slices_Equal_api_Spec_api_Spec_l0 k a0 a1 a2 a3) (some (.inr ()))
def slices_Equal_api_Spec_api_Spec (a_0 : (List (Int × Int × Int × Int × Int × Unit))) (a_1 : (List (Int × Int × Int × Int × Int × Unit))) : Option Bool :=
  slices_Equal_api_Spec_api_Spec_s0 a_0 a_1 (fun a0 => some a0) (fun a0 a1 a2 a3 => (slices_Equal_api_Spec_api_Spec_l0 FUEL a0 a1 a2 a3).bind fun e => (Sum.elim (fun (we : Bool) => slices_Equal_api_Spec_api_Spec_s2 we (fun a0 => some a0)) (fun (we : Unit) => slices_Equal_api_Spec_api_Spec_s3 (fun a0 => some a0)) e))
def slices_Index_int_int_s0 {R : Type} (a_0 : (List Int)) (a_1 : Int) (go0 : (List Int) → Int → Int → Int → Option R) : Option R :=
  (go0 a_0 a_1 ((List.length a_0) : Int) (0 : Int))
theorem slices_Index_int_int_s0_bind {R S : Type} (F : R → Option S) (a_0 : (List Int)) (a_1 : Int) (go0 : (List Int) → Int → Int → Int → Option R) : (slices_Index_int_int_s0 a_0 a_1 go0).bind F = slices_Index_int_int_s0 a_0 a_1 (fun a0 a1 a2 a3 => (go0 a0 a1 a2 a3).bind F) := by
  simp only [slices_Index_int_int_s0, cond_bind, within_bind, none_bind, some_bind, sum_bind, bind_bind]
def slices_Index_int_int_s1 {R : Type} (a_0 : (List Int)) (a_1 : Int) (t7 : Int) (t8 : Int) (ex0_0 : Int → Option R) (nx0 : (List Int) → Int → Int → Int → Option R) (ex0_1 : Option R) : Option R :=
  (bif (decide (t8 < t7)) then (within t8 (List.length a_0) (bif (decide (a_1 = (List.getD a_0 (t8).toNat (0 : Int)))) then (ex0_0 t8) else (nx0 a_0 a_1 t7 (IntKind.i64.wrap (t8 + (1 : Int)))))) else (ex0_1))
theorem slices_Index_int_int_s1_bind {R S : Type} (F : R → Option S) (a_0 : (List Int)) (a_1 : Int) (t7 : Int) (t8 : Int) (ex0_0 : Int → Option R) (nx0 : (List Int) → Int → Int → Int → Option R) (ex0_1 : Option R) : (slices_Index_int_int_s1 a_0 a_1 t7 t8 ex0_0 nx0 ex0_1).bind F = slices_Index_int_int_s1 a_0 a_1 t7 t8 (fun a0 => (ex0_0 a0).bind F) (fun a0 a1 a2 a3 => (nx0 a0 a1 a2 a3).bind F) ((ex0_1).bind F) := by
  simp only [slices_Index_int_int_s1, cond_bind, within_bind, none_bind, some_bind, sum_bind, bind_bind]
def slices_Index_int_int_s2 {R : Type} (t4 : Int) (kr0 : Int → Option R) : Option R :=
  (kr0 t4)
theorem slices_Index_int_int_s2_bind {R S : Type} (F : R → Option S) (t4 : Int) (kr0 : Int → Option R) : (slices_Index_int_int_s2 t4 kr0).bind F = slices_Index_int_int_s2 t4 (fun a0 => (kr0 a0).bind F) := by
  simp only [slices_Index_int_int_s2, cond_bind, within_bind, none_bind, some_bind, sum_bind, bind_bind]
def slices_Index_int_int_s3 {R : Type}  (kr0 : Int → Option R) : Option R :=
  (kr0 (-1 : Int))
theorem slices_Index_int_int_s3_bind {R S : Type} (F : R → Option S)  (kr0 : Int → Option R) : (slices_Index_int_int_s3 kr0).bind F = slices_Index_int_int_s3 (fun a0 => (kr0 a0).bind F) := by
  simp only [slices_Index_int_int_s3, cond_bind, within_bind, none_bind, some_bind, sum_bind, bind_bind]
def slices_Index_int_int_l0 : Nat → (List Int) → Int → Int → Int → Option (Sum Int Unit)
  | 0, _, _, _, _ => none
  | k + 1, v0, v1, v2, v3 => slices_Index_int_int_s1 v0 v1 v2 v3 (fun a0 => some (.inl a0)) (fun a0 a1 a2 a3 => slices_Index_int_int_l0 k a0 a1 a2 a3) (some (.inr ()))
def slices_Index_int_int (a_0 : (List Int)) (a_1 : Int) : Option Int :=
  slices_Index_int_int_s0 a_0 a_1 (fun a0 a1 a2 a3 => (slices_Index_int_int_l0 FUEL a0 a1 a2 a3).bind fun e => (Sum.elim (fun (we : Int) => slices_Index_int_int_s2 we (fun a0 => some a0)) (fun (we : Unit) => slices_Index_int_int_s3 (fun a0 => some a0)) e))
def slices_Contains_int_int_s0 {R : Type} (a_0 : (List Int)) (a_1 : Int) (kr0 : Bool → Option R) : Option R :=
  ((slices_Index_int_int a_0 a_1).bind fun r1 => (kr0 (decide ((0 : Int) ≤ r1))))
theorem slices_Contains_int_int_s0_bind {R S : Type} (F : R → Option S) (a_0 : (List Int)) (a_1 : Int) (kr0 : Bool → Option R) : (slices_Contains_int_int_s0 a_0 a_1 kr0).bind F = slices_Contains_int_int_s0 a_0 a_1 (fun a0 => (kr0 a0).bind F) := by
  simp only [slices_Contains_int_int_s0, cond_bind, within_bind, none_bind, some_bind, sum_bind, bind_bind]
def slices_Contains_int_int (a_0 : (List Int)) (a_1 : Int) : Option Bool :=
  slices_Contains_int_int_s0 a_0 a_1 (fun a0 => some a0)
end Groat

/- The functions of prefix as plain Lean. -/
set_option linter.unusedVariables false
set_option linter.unusedSimpArgs false
set_option maxRecDepth 100000
namespace Groat
open Go Go.Ref
def prefix_width_s0 {R : Type} (form_0 : Int) (kr0 : Int → Option R) : Option R :=
  (bif (decide (form_0 = (2 : Int))) then (kr0 (2 : Int)) else (bif (decide (form_0 = (3 : Int))) then (kr0 (3 : Int)) else (kr0 (0 : Int))))
theorem prefix_width_s0_bind {R S : Type} (F : R → Option S) (form_0 : Int) (kr0 : Int → Option R) : (prefix_width_s0 form_0 kr0).bind F = prefix_width_s0 form_0 (fun a0 => (kr0 a0).bind F) := by
  simp only [prefix_width_s0, cond_bind, within_bind, none_bind, some_bind, sum_bind, bind_bind]
def prefix_width (form_0 : Int) : Option Int :=
  prefix_width_s0 form_0 (fun a0 => some a0)
def prefix_Most_s0 {R : Type} (form_0 : Int) (go0 : Int → Int → Int → Option R) : Option R :=
  ((prefix_width form_0).bind fun r1 => (go0 (0 : Int) r1 (0 : Int)))
theorem prefix_Most_s0_bind {R S : Type} (F : R → Option S) (form_0 : Int) (go0 : Int → Int → Int → Option R) : (prefix_Most_s0 form_0 go0).bind F = prefix_Most_s0 form_0 (fun a0 a1 a2 => (go0 a0 a1 a2).bind F) := by
  simp only [prefix_Most_s0, cond_bind, within_bind, none_bind, some_bind, sum_bind, bind_bind]
def prefix_Most_s1 {R : Type} (t3 : Int) (t5 : Int) (t6 : Int) (nx0 : Int → Int → Int → Option R) (ex0_0 : Int → Option R) : Option R :=
  (bif (decide (t6 < t5)) then (nx0 (IntKind.i64.wrap ((IntKind.i64.wrap ((10 : Int) * t3)) + (9 : Int))) t5 (IntKind.i64.wrap (t6 + (1 : Int)))) else (ex0_0 t3))
theorem prefix_Most_s1_bind {R S : Type} (F : R → Option S) (t3 : Int) (t5 : Int) (t6 : Int) (nx0 : Int → Int → Int → Option R) (ex0_0 : Int → Option R) : (prefix_Most_s1 t3 t5 t6 nx0 ex0_0).bind F = prefix_Most_s1 t3 t5 t6 (fun a0 a1 a2 => (nx0 a0 a1 a2).bind F) (fun a0 => (ex0_0 a0).bind F) := by
  simp only [prefix_Most_s1, cond_bind, within_bind, none_bind, some_bind, sum_bind, bind_bind]
def prefix_Most_s2 {R : Type} (t3 : Int) (kr0 : Int → Option R) : Option R :=
  (kr0 t3)
theorem prefix_Most_s2_bind {R S : Type} (F : R → Option S) (t3 : Int) (kr0 : Int → Option R) : (prefix_Most_s2 t3 kr0).bind F = prefix_Most_s2 t3 (fun a0 => (kr0 a0).bind F) := by
  simp only [prefix_Most_s2, cond_bind, within_bind, none_bind, some_bind, sum_bind, bind_bind]
def prefix_Most_l0 : Nat → Int → Int → Int → Option Int
  | 0, _, _, _ => none
  | k + 1, v0, v1, v2 => prefix_Most_s1 v0 v1 v2 (fun a0 a1 a2 => prefix_Most_l0 k a0 a1 a2) (fun a0 => some a0)
def prefix_Most (form_0 : Int) : Option Int :=
  prefix_Most_s0 form_0 (fun a0 a1 a2 => (prefix_Most_l0 FUEL a0 a1 a2).bind fun e => prefix_Most_s2 e (fun a0 => some a0))
def prefix_known_s0 {R : Type} (style_0 : Int) (form_1 : Int) (kr0 : Bool → Option R) : Option R :=
  (bif (decide (style_0 = (1 : Int))) then ((prefix_width form_1).bind fun r1 => (kr0 (decide ((0 : Int) < r1)))) else (bif (decide (style_0 = (2 : Int))) then ((prefix_width form_1).bind fun r2 => (kr0 (decide ((0 : Int) < r2)))) else (kr0 false)))
theorem prefix_known_s0_bind {R S : Type} (F : R → Option S) (style_0 : Int) (form_1 : Int) (kr0 : Bool → Option R) : (prefix_known_s0 style_0 form_1 kr0).bind F = prefix_known_s0 style_0 form_1 (fun a0 => (kr0 a0).bind F) := by
  simp only [prefix_known_s0, cond_bind, within_bind, none_bind, some_bind, sum_bind, bind_bind]
def prefix_known (style_0 : Int) (form_1 : Int) : Option Bool :=
  prefix_known_s0 style_0 form_1 (fun a0 => some a0)
end Groat

/- The functions of spec as plain Lean. -/
set_option linter.unusedVariables false
set_option linter.unusedSimpArgs false
set_option maxRecDepth 100000
namespace Groat
open Go Go.Ref
def spec_Check_s0 {R : Type} (s_0 : (Int × Int × Int × Int × Int × Unit)) (kr0 : Int → Option R) : Option R :=
  (bif (decide (s_0.1 < (2 : Int))) then (kr0 (1 : Int)) else (bif (decide ((128 : Int) < s_0.1)) then (kr0 (1 : Int)) else ((class_Known s_0.2.1).bind fun r1 => (bif (!r1) then (kr0 (6 : Int)) else (bif (decide (s_0.2.2.1 < (1 : Int))) then (kr0 (3 : Int)) else (bif (decide ((3 : Int) < s_0.2.2.1)) then (kr0 (3 : Int)) else (bif (decide (s_0.2.2.2.1 < (1 : Int))) then (kr0 (5 : Int)) else (bif (decide (s_0.2.2.2.2.1 < s_0.2.2.2.1)) then (kr0 (5 : Int)) else (bif (decide ((999 : Int) < s_0.2.2.2.2.1)) then (kr0 (5 : Int)) else (bif (decide (s_0.2.2.1 = (1 : Int))) then (bif (!(decide (s_0.2.2.2.1 = s_0.2.2.2.2.1))) then (kr0 (5 : Int)) else (bif (!(decide (s_0.2.2.1 = (1 : Int)))) then ((prefix_Most s_0.2.2.1).bind fun r2 => (bif (decide (r2 < s_0.2.2.2.2.1)) then (kr0 (5 : Int)) else (bif (decide (s_0.2.2.1 = (1 : Int))) then (bif (decide (s_0.2.1 = (6 : Int))) then (kr0 (13 : Int)) else (kr0 (0 : Int))) else (kr0 (0 : Int))))) else (bif (decide (s_0.2.2.1 = (1 : Int))) then (bif (decide (s_0.2.1 = (6 : Int))) then (kr0 (13 : Int)) else (kr0 (0 : Int))) else (kr0 (0 : Int))))) else (bif (!(decide (s_0.2.2.1 = (1 : Int)))) then ((prefix_Most s_0.2.2.1).bind fun r3 => (bif (decide (r3 < s_0.2.2.2.2.1)) then (kr0 (5 : Int)) else (bif (decide (s_0.2.2.1 = (1 : Int))) then (bif (decide (s_0.2.1 = (6 : Int))) then (kr0 (13 : Int)) else (kr0 (0 : Int))) else (kr0 (0 : Int))))) else (bif (decide (s_0.2.2.1 = (1 : Int))) then (bif (decide (s_0.2.1 = (6 : Int))) then (kr0 (13 : Int)) else (kr0 (0 : Int))) else (kr0 (0 : Int))))))))))))))
theorem spec_Check_s0_bind {R S : Type} (F : R → Option S) (s_0 : (Int × Int × Int × Int × Int × Unit)) (kr0 : Int → Option R) : (spec_Check_s0 s_0 kr0).bind F = spec_Check_s0 s_0 (fun a0 => (kr0 a0).bind F) := by
  simp only [spec_Check_s0, cond_bind, within_bind, none_bind, some_bind, sum_bind, bind_bind]
def spec_Check (s_0 : (Int × Int × Int × Int × Int × Unit)) : Option Int :=
  spec_Check_s0 s_0 (fun a0 => some a0)
def spec_classes_s0 {R : Type} (a_0 : Int) (b_1 : Int) (kr0 : Bool → Option R) : Option R :=
  (bif (decide (a_0 = (5 : Int))) then (kr0 true) else (bif (decide (a_0 = (6 : Int))) then (kr0 (decide (a_0 = b_1))) else (bif (decide (b_1 = (6 : Int))) then (kr0 (decide (a_0 = b_1))) else ((class_Wider a_0 b_1).bind fun r1 => (kr0 r1)))))
theorem spec_classes_s0_bind {R S : Type} (F : R → Option S) (a_0 : Int) (b_1 : Int) (kr0 : Bool → Option R) : (spec_classes_s0 a_0 b_1 kr0).bind F = spec_classes_s0 a_0 b_1 (fun a0 => (kr0 a0).bind F) := by
  simp only [spec_classes_s0, cond_bind, within_bind, none_bind, some_bind, sum_bind, bind_bind]
def spec_classes (a_0 : Int) (b_1 : Int) : Option Bool :=
  spec_classes_s0 a_0 b_1 (fun a0 => some a0)
def spec_Wider_s0 {R : Type} (a_0 : (Int × Int × Int × Int × Int × Unit)) (b_1 : (Int × Int × Int × Int × Int × Unit)) (kr0 : Bool → Option R) : Option R :=
  ((spec_Check a_0).bind fun r1 => (bif (decide (r1 = (0 : Int))) then ((spec_Check b_1).bind fun r2 => (bif (decide (r2 = (0 : Int))) then (bif (decide (a_0.2.2.2.1 ≤ b_1.2.2.2.1)) then (bif (decide (b_1.2.2.2.2.1 ≤ a_0.2.2.2.2.1)) then ((spec_classes a_0.2.1 b_1.2.1).bind fun r3 => (kr0 r3)) else (kr0 false)) else (kr0 false)) else (kr0 false))) else (kr0 false)))
theorem spec_Wider_s0_bind {R S : Type} (F : R → Option S) (a_0 : (Int × Int × Int × Int × Int × Unit)) (b_1 : (Int × Int × Int × Int × Int × Unit)) (kr0 : Bool → Option R) : (spec_Wider_s0 a_0 b_1 kr0).bind F = spec_Wider_s0 a_0 b_1 (fun a0 => (kr0 a0).bind F) := by
  simp only [spec_Wider_s0, cond_bind, within_bind, none_bind, some_bind, sum_bind, bind_bind]
def spec_Wider (a_0 : (Int × Int × Int × Int × Int × Unit)) (b_1 : (Int × Int × Int × Int × Int × Unit)) : Option Bool :=
  spec_Wider_s0 a_0 b_1 (fun a0 => some a0)
end Groat

/- The functions of schema as plain Lean. -/
set_option linter.unusedVariables false
set_option linter.unusedSimpArgs false
set_option maxRecDepth 100000
namespace Groat
open Go Go.Ref
def schema_Check_s0 {R : Type} (s_0 : (Int × Int × (List (Int × Int × Int × Int × Int × Unit)) × Unit)) (kr0 : Int → Int → Option R) (go0 : (List (Int × Int × Int × Int × Int × Unit)) → Int → Int → (Int × Int × (List (Int × Int × Int × Int × Int × Unit)) × Unit) → Option R) : Option R :=
  (bif (!(decide (s_0.1 = (1 : Int)))) then (bif (!(decide (s_0.1 = (2 : Int)))) then (kr0 (1 : Int) (-1 : Int)) else (bif (decide (s_0.2.1 < (0 : Int))) then (kr0 (7 : Int) (-1 : Int)) else (bif (decide ((9 : Int) < s_0.2.1)) then (kr0 (7 : Int) (-1 : Int)) else (go0 s_0.2.2.1 ((List.length s_0.2.2.1) : Int) (0 : Int) s_0)))) else (bif (decide (s_0.2.1 < (0 : Int))) then (kr0 (7 : Int) (-1 : Int)) else (bif (decide ((9 : Int) < s_0.2.1)) then (kr0 (7 : Int) (-1 : Int)) else (go0 s_0.2.2.1 ((List.length s_0.2.2.1) : Int) (0 : Int) s_0))))
theorem schema_Check_s0_bind {R S : Type} (F : R → Option S) (s_0 : (Int × Int × (List (Int × Int × Int × Int × Int × Unit)) × Unit)) (kr0 : Int → Int → Option R) (go0 : (List (Int × Int × Int × Int × Int × Unit)) → Int → Int → (Int × Int × (List (Int × Int × Int × Int × Int × Unit)) × Unit) → Option R) : (schema_Check_s0 s_0 kr0 go0).bind F = schema_Check_s0 s_0 (fun a0 a1 => (kr0 a0 a1).bind F) (fun a0 a1 a2 a3 => (go0 a0 a1 a2 a3).bind F) := by
  simp only [schema_Check_s0, cond_bind, within_bind, none_bind, some_bind, sum_bind, bind_bind]
def schema_Check_s1 {R : Type} (t26 : (List (Int × Int × Int × Int × Int × Unit))) (t27 : Int) (t28 : Int) (bt1 : (Int × Int × (List (Int × Int × Int × Int × Int × Unit)) × Unit)) (ex0_0 : Int → Int → Option R) (nx0 : (List (Int × Int × Int × Int × Int × Unit)) → Int → Int → (Int × Int × (List (Int × Int × Int × Int × Int × Unit)) × Unit) → Option R) (ex0_1 : Option R) : Option R :=
  (bif (decide (t28 < t27)) then (within t28 (List.length t26) ((spec_Check (List.getD t26 (t28).toNat ((0 : Int), (0 : Int), (0 : Int), (0 : Int), (0 : Int), ()))).bind fun r1 => (bif (!(decide (r1 = (0 : Int)))) then (ex0_0 r1 t28) else (bif (decide ((0 : Int) < t28)) then (within (IntKind.i64.wrap (t28 - (1 : Int))) (List.length bt1.2.2.1) (bif (decide ((List.getD t26 (t28).toNat ((0 : Int), (0 : Int), (0 : Int), (0 : Int), (0 : Int), ())).1 ≤ (List.getD bt1.2.2.1 ((IntKind.i64.wrap (t28 - (1 : Int)))).toNat ((0 : Int), (0 : Int), (0 : Int), (0 : Int), (0 : Int), ())).1)) then (ex0_0 (11 : Int) t28) else (nx0 t26 t27 (IntKind.i64.wrap (t28 + (1 : Int))) bt1))) else (nx0 t26 t27 (IntKind.i64.wrap (t28 + (1 : Int))) bt1))))) else (ex0_1))
theorem schema_Check_s1_bind {R S : Type} (F : R → Option S) (t26 : (List (Int × Int × Int × Int × Int × Unit))) (t27 : Int) (t28 : Int) (bt1 : (Int × Int × (List (Int × Int × Int × Int × Int × Unit)) × Unit)) (ex0_0 : Int → Int → Option R) (nx0 : (List (Int × Int × Int × Int × Int × Unit)) → Int → Int → (Int × Int × (List (Int × Int × Int × Int × Int × Unit)) × Unit) → Option R) (ex0_1 : Option R) : (schema_Check_s1 t26 t27 t28 bt1 ex0_0 nx0 ex0_1).bind F = schema_Check_s1 t26 t27 t28 bt1 (fun a0 a1 => (ex0_0 a0 a1).bind F) (fun a0 a1 a2 a3 => (nx0 a0 a1 a2 a3).bind F) ((ex0_1).bind F) := by
  simp only [schema_Check_s1, cond_bind, within_bind, none_bind, some_bind, sum_bind, bind_bind]
def schema_Check_s2 {R : Type} (t2 : Int) (t3 : Int) (kr0 : Int → Int → Option R) : Option R :=
  (kr0 t2 t3)
theorem schema_Check_s2_bind {R S : Type} (F : R → Option S) (t2 : Int) (t3 : Int) (kr0 : Int → Int → Option R) : (schema_Check_s2 t2 t3 kr0).bind F = schema_Check_s2 t2 t3 (fun a0 a1 => (kr0 a0 a1).bind F) := by
  simp only [schema_Check_s2, cond_bind, within_bind, none_bind, some_bind, sum_bind, bind_bind]
def schema_Check_s3 {R : Type}  (kr0 : Int → Int → Option R) : Option R :=
  (kr0 (0 : Int) (0 : Int))
theorem schema_Check_s3_bind {R S : Type} (F : R → Option S)  (kr0 : Int → Int → Option R) : (schema_Check_s3 kr0).bind F = schema_Check_s3 (fun a0 a1 => (kr0 a0 a1).bind F) := by
  simp only [schema_Check_s3, cond_bind, within_bind, none_bind, some_bind, sum_bind, bind_bind]
def schema_Check_l0 : Nat → (List (Int × Int × Int × Int × Int × Unit)) → Int → Int → (Int × Int × (List (Int × Int × Int × Int × Int × Unit)) × Unit) → Option (Sum (Int × Int) Unit)
  | 0, _, _, _, _ => none
  | k + 1, v0, v1, v2, v3 => schema_Check_s1 v0 v1 v2 v3 (fun a0 a1 => some (.inl (a0, a1))) (fun a0 a1 a2 a3 => schema_Check_l0 k a0 a1 a2 a3) (some (.inr ()))
def schema_Check (s_0 : (Int × Int × (List (Int × Int × Int × Int × Int × Unit)) × Unit)) : Option (Int × Int) :=
  schema_Check_s0 s_0 (fun a0 a1 => some (a0, a1)) (fun a0 a1 a2 a3 => (schema_Check_l0 FUEL a0 a1 a2 a3).bind fun e => (Sum.elim (fun (we : (Int × Int)) => schema_Check_s2 we.1 we.2 (fun a0 a1 => some (a0, a1))) (fun (we : Unit) => schema_Check_s3 (fun a0 a1 => some (a0, a1))) e))
def schema_Find_s0 {R : Type} (s_0 : (Int × Int × (List (Int × Int × Int × Int × Int × Unit)) × Unit)) (no_1 : Int) (go0 : Int → (List (Int × Int × Int × Int × Int × Unit)) → Int → Int → (Int × Int × Int × Int × Int × Unit) → Option R) : Option R :=
  (go0 no_1 s_0.2.2.1 ((List.length s_0.2.2.1) : Int) (0 : Int) ((0 : Int), (0 : Int), (0 : Int), (0 : Int), (0 : Int), ()))
theorem schema_Find_s0_bind {R S : Type} (F : R → Option S) (s_0 : (Int × Int × (List (Int × Int × Int × Int × Int × Unit)) × Unit)) (no_1 : Int) (go0 : Int → (List (Int × Int × Int × Int × Int × Unit)) → Int → Int → (Int × Int × Int × Int × Int × Unit) → Option R) : (schema_Find_s0 s_0 no_1 go0).bind F = schema_Find_s0 s_0 no_1 (fun a0 a1 a2 a3 a4 => (go0 a0 a1 a2 a3 a4).bind F) := by
  simp only [schema_Find_s0, cond_bind, within_bind, none_bind, some_bind, sum_bind, bind_bind]
def schema_Find_s1 {R : Type} (no_1 : Int) (t9 : (List (Int × Int × Int × Int × Int × Unit))) (t10 : Int) (t11 : Int) (bt4 : (Int × Int × Int × Int × Int × Unit)) (ex0_0 : Bool → (Int × Int × Int × Int × Int × Unit) → Option R) (nx0 : Int → (List (Int × Int × Int × Int × Int × Unit)) → Int → Int → (Int × Int × Int × Int × Int × Unit) → Option R) (ex0_1 : (Int × Int × Int × Int × Int × Unit) → Option R) : Option R :=
  (bif (decide (t11 < t10)) then (within t11 (List.length t9) (bif (decide ((List.getD t9 (t11).toNat ((0 : Int), (0 : Int), (0 : Int), (0 : Int), (0 : Int), ())).1 = no_1)) then (ex0_0 true (List.getD t9 (t11).toNat ((0 : Int), (0 : Int), (0 : Int), (0 : Int), (0 : Int), ()))) else (nx0 no_1 t9 t10 (IntKind.i64.wrap (t11 + (1 : Int))) bt4))) else (ex0_1 bt4))
theorem schema_Find_s1_bind {R S : Type} (F : R → Option S) (no_1 : Int) (t9 : (List (Int × Int × Int × Int × Int × Unit))) (t10 : Int) (t11 : Int) (bt4 : (Int × Int × Int × Int × Int × Unit)) (ex0_0 : Bool → (Int × Int × Int × Int × Int × Unit) → Option R) (nx0 : Int → (List (Int × Int × Int × Int × Int × Unit)) → Int → Int → (Int × Int × Int × Int × Int × Unit) → Option R) (ex0_1 : (Int × Int × Int × Int × Int × Unit) → Option R) : (schema_Find_s1 no_1 t9 t10 t11 bt4 ex0_0 nx0 ex0_1).bind F = schema_Find_s1 no_1 t9 t10 t11 bt4 (fun a0 a1 => (ex0_0 a0 a1).bind F) (fun a0 a1 a2 a3 a4 => (nx0 a0 a1 a2 a3 a4).bind F) (fun a0 => (ex0_1 a0).bind F) := by
  simp only [schema_Find_s1, cond_bind, within_bind, none_bind, some_bind, sum_bind, bind_bind]
def schema_Find_s2 {R : Type} (t5 : Bool) (bt4 : (Int × Int × Int × Int × Int × Unit)) (kr0 : (Int × Int × Int × Int × Int × Unit) → Bool → Option R) : Option R :=
  (kr0 bt4 t5)
theorem schema_Find_s2_bind {R S : Type} (F : R → Option S) (t5 : Bool) (bt4 : (Int × Int × Int × Int × Int × Unit)) (kr0 : (Int × Int × Int × Int × Int × Unit) → Bool → Option R) : (schema_Find_s2 t5 bt4 kr0).bind F = schema_Find_s2 t5 bt4 (fun a0 a1 => (kr0 a0 a1).bind F) := by
  simp only [schema_Find_s2, cond_bind, within_bind, none_bind, some_bind, sum_bind, bind_bind]
def schema_Find_s3 {R : Type} (bt4 : (Int × Int × Int × Int × Int × Unit)) (kr0 : (Int × Int × Int × Int × Int × Unit) → Bool → Option R) : Option R :=
  (kr0 ((0 : Int), (0 : Int), (0 : Int), (0 : Int), (0 : Int), ()) false)
theorem schema_Find_s3_bind {R S : Type} (F : R → Option S) (bt4 : (Int × Int × Int × Int × Int × Unit)) (kr0 : (Int × Int × Int × Int × Int × Unit) → Bool → Option R) : (schema_Find_s3 bt4 kr0).bind F = schema_Find_s3 bt4 (fun a0 a1 => (kr0 a0 a1).bind F) := by
  simp only [schema_Find_s3, cond_bind, within_bind, none_bind, some_bind, sum_bind, bind_bind]
def schema_Find_l0 : Nat → Int → (List (Int × Int × Int × Int × Int × Unit)) → Int → Int → (Int × Int × Int × Int × Int × Unit) → Option (Sum (Bool × (Int × Int × Int × Int × Int × Unit)) (Int × Int × Int × Int × Int × Unit))
  | 0, _, _, _, _, _ => none
  | k + 1, v0, v1, v2, v3, v4 => schema_Find_s1 v0 v1 v2 v3 v4 (fun a0 a1 => some (.inl (a0, a1))) (fun a0 a1 a2 a3 a4 => schema_Find_l0 k a0 a1 a2 a3 a4) (fun a0 => some (.inr a0))
def schema_Find (s_0 : (Int × Int × (List (Int × Int × Int × Int × Int × Unit)) × Unit)) (no_1 : Int) : Option ((Int × Int × Int × Int × Int × Unit) × Bool) :=
  schema_Find_s0 s_0 no_1 (fun a0 a1 a2 a3 a4 => (schema_Find_l0 FUEL a0 a1 a2 a3 a4).bind fun e => (Sum.elim (fun (we : (Bool × (Int × Int × Int × Int × Int × Unit))) => schema_Find_s2 we.1 we.2 (fun a0 a1 => some (a0, a1))) (fun (we : (Int × Int × Int × Int × Int × Unit)) => schema_Find_s3 we (fun a0 a1 => some (a0, a1))) e))
def schema_Restrict_s0 {R : Type} (s_0 : (Int × Int × (List (Int × Int × Int × Int × Int × Unit)) × Unit)) (keep_1 : (Int × Int × Unit)) (kr0 : (Int × Int × (List (Int × Int × Int × Int × Int × Unit)) × Unit) → Option R) (go0 : (List (Int × Int × Int × Int × Int × Unit)) → Int → Int → (Int × Int × Unit) → (Int × Int × (List (Int × Int × Int × Int × Int × Unit)) × Unit) → (Int × Int × (List (Int × Int × Int × Int × Int × Unit)) × Unit) → Option R) : Option R :=
  (bif ((decide (keep_1.1 = (0 : Int))) && ((decide (keep_1.2.1 = (0 : Int))) && true)) then (kr0 (s_0.1, s_0.2.1, ([] : List (Int × Int × Int × Int × Int × Unit)), ())) else (go0 s_0.2.2.1 ((List.length s_0.2.2.1) : Int) (0 : Int) keep_1 ((0 : Int), (0 : Int), ([] : List (Int × Int × Int × Int × Int × Unit)), ()) (s_0.1, s_0.2.1, ([] : List (Int × Int × Int × Int × Int × Unit)), ())))
theorem schema_Restrict_s0_bind {R S : Type} (F : R → Option S) (s_0 : (Int × Int × (List (Int × Int × Int × Int × Int × Unit)) × Unit)) (keep_1 : (Int × Int × Unit)) (kr0 : (Int × Int × (List (Int × Int × Int × Int × Int × Unit)) × Unit) → Option R) (go0 : (List (Int × Int × Int × Int × Int × Unit)) → Int → Int → (Int × Int × Unit) → (Int × Int × (List (Int × Int × Int × Int × Int × Unit)) × Unit) → (Int × Int × (List (Int × Int × Int × Int × Int × Unit)) × Unit) → Option R) : (schema_Restrict_s0 s_0 keep_1 kr0 go0).bind F = schema_Restrict_s0 s_0 keep_1 (fun a0 => (kr0 a0).bind F) (fun a0 a1 a2 a3 a4 a5 => (go0 a0 a1 a2 a3 a4 a5).bind F) := by
  simp only [schema_Restrict_s0, cond_bind, within_bind, none_bind, some_bind, sum_bind, bind_bind]
def schema_Restrict_s1 {R : Type} (t18 : (List (Int × Int × Int × Int × Int × Unit))) (t19 : Int) (t20 : Int) (bt3 : (Int × Int × Unit)) (bt4 : (Int × Int × (List (Int × Int × Int × Int × Int × Unit)) × Unit)) (bt5 : (Int × Int × (List (Int × Int × Int × Int × Int × Unit)) × Unit)) (nx0 : (List (Int × Int × Int × Int × Int × Unit)) → Int → Int → (Int × Int × Unit) → (Int × Int × (List (Int × Int × Int × Int × Int × Unit)) × Unit) → (Int × Int × (List (Int × Int × Int × Int × Int × Unit)) × Unit) → Option R) (ex0_0 : (Int × Int × (List (Int × Int × Int × Int × Int × Unit)) × Unit) → (Int × Int × (List (Int × Int × Int × Int × Int × Unit)) × Unit) → Option R) : Option R :=
  (bif (decide (t20 < t19)) then (within t20 (List.length t18) ((fields_Set_Has bt3 (List.getD t18 (t20).toNat ((0 : Int), (0 : Int), (0 : Int), (0 : Int), (0 : Int), ())).1).bind fun r1 => (bif r1 then (bif (decide (((List.length bt5.2.2.1) + (List.length ([(List.getD t18 (t20).toNat ((0 : Int), (0 : Int), (0 : Int), (0 : Int), (0 : Int), ()))] : List (Int × Int × Int × Int × Int × Unit)))) * 40 ≤ 140737488355328)) then (nx0 t18 t19 (IntKind.i64.wrap (t20 + (1 : Int))) bt3 bt4 (bt5.1, bt5.2.1, (bt5.2.2.1 ++ ([(List.getD t18 (t20).toNat ((0 : Int), (0 : Int), (0 : Int), (0 : Int), (0 : Int), ()))] : List (Int × Int × Int × Int × Int × Unit))), ())) else none) else (nx0 t18 t19 (IntKind.i64.wrap (t20 + (1 : Int))) bt3 bt4 bt5)))) else (ex0_0 bt4 bt5))
theorem schema_Restrict_s1_bind {R S : Type} (F : R → Option S) (t18 : (List (Int × Int × Int × Int × Int × Unit))) (t19 : Int) (t20 : Int) (bt3 : (Int × Int × Unit)) (bt4 : (Int × Int × (List (Int × Int × Int × Int × Int × Unit)) × Unit)) (bt5 : (Int × Int × (List (Int × Int × Int × Int × Int × Unit)) × Unit)) (nx0 : (List (Int × Int × Int × Int × Int × Unit)) → Int → Int → (Int × Int × Unit) → (Int × Int × (List (Int × Int × Int × Int × Int × Unit)) × Unit) → (Int × Int × (List (Int × Int × Int × Int × Int × Unit)) × Unit) → Option R) (ex0_0 : (Int × Int × (List (Int × Int × Int × Int × Int × Unit)) × Unit) → (Int × Int × (List (Int × Int × Int × Int × Int × Unit)) × Unit) → Option R) : (schema_Restrict_s1 t18 t19 t20 bt3 bt4 bt5 nx0 ex0_0).bind F = schema_Restrict_s1 t18 t19 t20 bt3 bt4 bt5 (fun a0 a1 a2 a3 a4 a5 => (nx0 a0 a1 a2 a3 a4 a5).bind F) (fun a0 a1 => (ex0_0 a0 a1).bind F) := by
  simp only [schema_Restrict_s1, cond_bind, within_bind, none_bind, some_bind, sum_bind, bind_bind]
def schema_Restrict_s2 {R : Type} (bt4 : (Int × Int × (List (Int × Int × Int × Int × Int × Unit)) × Unit)) (bt5 : (Int × Int × (List (Int × Int × Int × Int × Int × Unit)) × Unit)) (kr0 : (Int × Int × (List (Int × Int × Int × Int × Int × Unit)) × Unit) → Option R) : Option R :=
  (kr0 bt5)
theorem schema_Restrict_s2_bind {R S : Type} (F : R → Option S) (bt4 : (Int × Int × (List (Int × Int × Int × Int × Int × Unit)) × Unit)) (bt5 : (Int × Int × (List (Int × Int × Int × Int × Int × Unit)) × Unit)) (kr0 : (Int × Int × (List (Int × Int × Int × Int × Int × Unit)) × Unit) → Option R) : (schema_Restrict_s2 bt4 bt5 kr0).bind F = schema_Restrict_s2 bt4 bt5 (fun a0 => (kr0 a0).bind F) := by
  simp only [schema_Restrict_s2, cond_bind, within_bind, none_bind, some_bind, sum_bind, bind_bind]
def schema_Restrict_l0 : Nat → (List (Int × Int × Int × Int × Int × Unit)) → Int → Int → (Int × Int × Unit) → (Int × Int × (List (Int × Int × Int × Int × Int × Unit)) × Unit) → (Int × Int × (List (Int × Int × Int × Int × Int × Unit)) × Unit) → Option ((Int × Int × (List (Int × Int × Int × Int × Int × Unit)) × Unit) × (Int × Int × (List (Int × Int × Int × Int × Int × Unit)) × Unit))
  | 0, _, _, _, _, _, _ => none
  | k + 1, v0, v1, v2, v3, v4, v5 => schema_Restrict_s1 v0 v1 v2 v3 v4 v5 (fun a0 a1 a2 a3 a4 a5 => schema_Restrict_l0 k a0 a1 a2 a3 a4 a5) (fun a0 a1 => some (a0, a1))
def schema_Restrict (s_0 : (Int × Int × (List (Int × Int × Int × Int × Int × Unit)) × Unit)) (keep_1 : (Int × Int × Unit)) : Option (Int × Int × (List (Int × Int × Int × Int × Int × Unit)) × Unit) :=
  schema_Restrict_s0 s_0 keep_1 (fun a0 => some a0) (fun a0 a1 a2 a3 a4 a5 => (schema_Restrict_l0 FUEL a0 a1 a2 a3 a4 a5).bind fun e => schema_Restrict_s2 e.1 e.2 (fun a0 => some a0))
def schema_Set_s0 {R : Type} (s_0 : (Int × Int × (List (Int × Int × Int × Int × Int × Unit)) × Unit)) (go0 : (List (Int × Int × Int × Int × Int × Unit)) → Int → Int → (Int × Int × Unit) → (Int × Int × Unit) → Option R) : Option R :=
  (go0 s_0.2.2.1 ((List.length s_0.2.2.1) : Int) (0 : Int) ((0 : Int), (0 : Int), ()) ((0 : Int), (0 : Int), ()))
theorem schema_Set_s0_bind {R S : Type} (F : R → Option S) (s_0 : (Int × Int × (List (Int × Int × Int × Int × Int × Unit)) × Unit)) (go0 : (List (Int × Int × Int × Int × Int × Unit)) → Int → Int → (Int × Int × Unit) → (Int × Int × Unit) → Option R) : (schema_Set_s0 s_0 go0).bind F = schema_Set_s0 s_0 (fun a0 a1 a2 a3 a4 => (go0 a0 a1 a2 a3 a4).bind F) := by
  simp only [schema_Set_s0, cond_bind, within_bind, none_bind, some_bind, sum_bind, bind_bind]
def schema_Set_s1 {R : Type} (t7 : (List (Int × Int × Int × Int × Int × Unit))) (t8 : Int) (t9 : Int) (bt2 : (Int × Int × Unit)) (bt3 : (Int × Int × Unit)) (nx0 : (List (Int × Int × Int × Int × Int × Unit)) → Int → Int → (Int × Int × Unit) → (Int × Int × Unit) → Option R) (ex0_0 : (Int × Int × Unit) → (Int × Int × Unit) → Option R) : Option R :=
  (bif (decide (t9 < t8)) then (within t9 (List.length t7) ((fields_Set_With bt3 (List.getD t7 (t9).toNat ((0 : Int), (0 : Int), (0 : Int), (0 : Int), (0 : Int), ())).1).bind fun r1 => (nx0 t7 t8 (IntKind.i64.wrap (t9 + (1 : Int))) bt2 r1))) else (ex0_0 bt2 bt3))
theorem schema_Set_s1_bind {R S : Type} (F : R → Option S) (t7 : (List (Int × Int × Int × Int × Int × Unit))) (t8 : Int) (t9 : Int) (bt2 : (Int × Int × Unit)) (bt3 : (Int × Int × Unit)) (nx0 : (List (Int × Int × Int × Int × Int × Unit)) → Int → Int → (Int × Int × Unit) → (Int × Int × Unit) → Option R) (ex0_0 : (Int × Int × Unit) → (Int × Int × Unit) → Option R) : (schema_Set_s1 t7 t8 t9 bt2 bt3 nx0 ex0_0).bind F = schema_Set_s1 t7 t8 t9 bt2 bt3 (fun a0 a1 a2 a3 a4 => (nx0 a0 a1 a2 a3 a4).bind F) (fun a0 a1 => (ex0_0 a0 a1).bind F) := by
  simp only [schema_Set_s1, cond_bind, within_bind, none_bind, some_bind, sum_bind, bind_bind]
def schema_Set_s2 {R : Type} (bt2 : (Int × Int × Unit)) (bt3 : (Int × Int × Unit)) (kr0 : (Int × Int × Unit) → Option R) : Option R :=
  (kr0 bt3)
theorem schema_Set_s2_bind {R S : Type} (F : R → Option S) (bt2 : (Int × Int × Unit)) (bt3 : (Int × Int × Unit)) (kr0 : (Int × Int × Unit) → Option R) : (schema_Set_s2 bt2 bt3 kr0).bind F = schema_Set_s2 bt2 bt3 (fun a0 => (kr0 a0).bind F) := by
  simp only [schema_Set_s2, cond_bind, within_bind, none_bind, some_bind, sum_bind, bind_bind]
def schema_Set_l0 : Nat → (List (Int × Int × Int × Int × Int × Unit)) → Int → Int → (Int × Int × Unit) → (Int × Int × Unit) → Option ((Int × Int × Unit) × (Int × Int × Unit))
  | 0, _, _, _, _, _ => none
  | k + 1, v0, v1, v2, v3, v4 => schema_Set_s1 v0 v1 v2 v3 v4 (fun a0 a1 a2 a3 a4 => schema_Set_l0 k a0 a1 a2 a3 a4) (fun a0 a1 => some (a0, a1))
def schema_Set (s_0 : (Int × Int × (List (Int × Int × Int × Int × Int × Unit)) × Unit)) : Option (Int × Int × Unit) :=
  schema_Set_s0 s_0 (fun a0 a1 a2 a3 a4 => (schema_Set_l0 FUEL a0 a1 a2 a3 a4).bind fun e => schema_Set_s2 e.1 e.2 (fun a0 => some a0))
def schema_Same_s0 {R : Type} (a_0 : (Int × Int × (List (Int × Int × Int × Int × Int × Unit)) × Unit)) (b_1 : (Int × Int × (List (Int × Int × Int × Int × Int × Unit)) × Unit)) (kr0 : Bool → Option R) : Option R :=
  (bif (decide (a_0.1 = b_1.1)) then (bif (decide (a_0.2.1 = b_1.2.1)) then ((slices_Equal_api_Spec_api_Spec a_0.2.2.1 b_1.2.2.1).bind fun r1 => (kr0 r1)) else (kr0 false)) else (kr0 false))
theorem schema_Same_s0_bind {R S : Type} (F : R → Option S) (a_0 : (Int × Int × (List (Int × Int × Int × Int × Int × Unit)) × Unit)) (b_1 : (Int × Int × (List (Int × Int × Int × Int × Int × Unit)) × Unit)) (kr0 : Bool → Option R) : (schema_Same_s0 a_0 b_1 kr0).bind F = schema_Same_s0 a_0 b_1 (fun a0 => (kr0 a0).bind F) := by
  simp only [schema_Same_s0, cond_bind, within_bind, none_bind, some_bind, sum_bind, bind_bind]
def schema_Same (a_0 : (Int × Int × (List (Int × Int × Int × Int × Int × Unit)) × Unit)) (b_1 : (Int × Int × (List (Int × Int × Int × Int × Int × Unit)) × Unit)) : Option Bool :=
  schema_Same_s0 a_0 b_1 (fun a0 => some a0)
end Groat

/- The functions of groatlaw13 as plain Lean. -/
set_option linter.unusedVariables false
set_option linter.unusedSimpArgs false
set_option maxRecDepth 100000
namespace Groat
open Go Go.Ref
def groatlaw13_awake_s0 {R : Type}  (kr0 : Bool → Option R) : Option R :=
  ((schema_Check ((1 : Int), (1 : Int), ([((2 : Int), (1 : Int), (1 : Int), (3 : Int), (3 : Int), ()), ((4 : Int), (1 : Int), (1 : Int), (3 : Int), (3 : Int), ()), ((3 : Int), (1 : Int), (1 : Int), (3 : Int), (3 : Int), ())] : List (Int × Int × Int × Int × Int × Unit)), ())).bind fun r1 => ((schema_Check ((2 : Int), (10 : Int), ([] : List (Int × Int × Int × Int × Int × Unit)), ())).bind fun r2 => ((schema_Find ((1 : Int), (1 : Int), ([((2 : Int), (1 : Int), (1 : Int), (3 : Int), (3 : Int), ()), ((4 : Int), (1 : Int), (1 : Int), (3 : Int), (3 : Int), ()), ((3 : Int), (1 : Int), (1 : Int), (3 : Int), (3 : Int), ())] : List (Int × Int × Int × Int × Int × Unit)), ()) (4 : Int)).bind fun r3 => ((fields_Of ([(3 : Int), (2 : Int)] : List Int)).bind fun r4 => ((schema_Restrict ((1 : Int), (1 : Int), ([((2 : Int), (1 : Int), (1 : Int), (3 : Int), (3 : Int), ()), ((4 : Int), (1 : Int), (1 : Int), (3 : Int), (3 : Int), ()), ((3 : Int), (1 : Int), (1 : Int), (3 : Int), (3 : Int), ())] : List (Int × Int × Int × Int × Int × Unit)), ()) r4).bind fun r5 => (bif (decide (r1.1 = (11 : Int))) then (bif (decide (r1.2 = (2 : Int))) then (bif (decide (r2.1 = (7 : Int))) then (bif (decide (r2.2 = (-1 : Int))) then (bif ((decide (r3.1.1 = (4 : Int))) && ((decide (r3.1.2.1 = (1 : Int))) && ((decide (r3.1.2.2.1 = (1 : Int))) && ((decide (r3.1.2.2.2.1 = (3 : Int))) && ((decide (r3.1.2.2.2.2.1 = (3 : Int))) && true))))) then (bif r3.2 then ((schema_Set ((1 : Int), (1 : Int), ([((2 : Int), (1 : Int), (1 : Int), (3 : Int), (3 : Int), ()), ((4 : Int), (1 : Int), (1 : Int), (3 : Int), (3 : Int), ()), ((3 : Int), (1 : Int), (1 : Int), (3 : Int), (3 : Int), ())] : List (Int × Int × Int × Int × Int × Unit)), ())).bind fun r6 => ((fields_Of ([(2 : Int), (3 : Int), (4 : Int)] : List Int)).bind fun r7 => (bif ((decide (r6.1 = r7.1)) && ((decide (r6.2.1 = r7.2.1)) && true)) then (bif (decide (((List.length r5.2.2.1) : Int) = (2 : Int))) then (within (1 : Int) (List.length r5.2.2.1) (bif ((decide ((List.getD r5.2.2.1 ((1 : Int)).toNat ((0 : Int), (0 : Int), (0 : Int), (0 : Int), (0 : Int), ())).1 = (3 : Int))) && ((decide ((List.getD r5.2.2.1 ((1 : Int)).toNat ((0 : Int), (0 : Int), (0 : Int), (0 : Int), (0 : Int), ())).2.1 = (1 : Int))) && ((decide ((List.getD r5.2.2.1 ((1 : Int)).toNat ((0 : Int), (0 : Int), (0 : Int), (0 : Int), (0 : Int), ())).2.2.1 = (1 : Int))) && ((decide ((List.getD r5.2.2.1 ((1 : Int)).toNat ((0 : Int), (0 : Int), (0 : Int), (0 : Int), (0 : Int), ())).2.2.2.1 = (3 : Int))) && ((decide ((List.getD r5.2.2.1 ((1 : Int)).toNat ((0 : Int), (0 : Int), (0 : Int), (0 : Int), (0 : Int), ())).2.2.2.2.1 = (3 : Int))) && true))))) then (bif (decide (r5.2.1 = (1 : Int))) then ((groatref13_Copy ((1 : Int), (1 : Int), ([((2 : Int), (1 : Int), (1 : Int), (3 : Int), (3 : Int), ()), ((4 : Int), (1 : Int), (1 : Int), (3 : Int), (3 : Int), ()), ((3 : Int), (1 : Int), (1 : Int), (3 : Int), (3 : Int), ())] : List (Int × Int × Int × Int × Int × Unit)), ())).bind fun r8 => ((schema_Same ((1 : Int), (1 : Int), ([((2 : Int), (1 : Int), (1 : Int), (3 : Int), (3 : Int), ()), ((4 : Int), (1 : Int), (1 : Int), (3 : Int), (3 : Int), ()), ((3 : Int), (1 : Int), (1 : Int), (3 : Int), (3 : Int), ())] : List (Int × Int × Int × Int × Int × Unit)), ()) r8).bind fun r9 => (bif r9 then ((schema_Same ((1 : Int), (1 : Int), ([((2 : Int), (1 : Int), (1 : Int), (3 : Int), (3 : Int), ()), ((4 : Int), (1 : Int), (1 : Int), (3 : Int), (3 : Int), ()), ((3 : Int), (1 : Int), (1 : Int), (3 : Int), (3 : Int), ())] : List (Int × Int × Int × Int × Int × Unit)), ()) r5).bind fun r10 => (kr0 (!r10))) else (kr0 false)))) else (kr0 false)) else (kr0 false))) else (kr0 false)) else (kr0 false)))) else (kr0 false)) else (kr0 false)) else (kr0 false)) else (kr0 false)) else (kr0 false)) else (kr0 false)))))))
theorem groatlaw13_awake_s0_bind {R S : Type} (F : R → Option S)  (kr0 : Bool → Option R) : (groatlaw13_awake_s0 kr0).bind F = groatlaw13_awake_s0 (fun a0 => (kr0 a0).bind F) := by
  simp only [groatlaw13_awake_s0, cond_bind, within_bind, none_bind, some_bind, sum_bind, bind_bind]
def groatlaw13_awake  : Option Bool :=
  groatlaw13_awake_s0 (fun a0 => some a0)
def groatlaw13_SchemaChecks_s0 {R : Type} (s_0 : (Int × Int × (List (Int × Int × Int × Int × Int × Unit)) × Unit)) (kr0 : Bool → Option R) : Option R :=
  ((groatlaw13_awake).bind fun r1 => (bif (!r1) then ((groatlaw13_awake).bind fun r2 => (kr0 r2)) else (bif (decide ((300 : Int) < ((List.length s_0.2.2.1) : Int))) then ((groatlaw13_awake).bind fun r3 => (kr0 r3)) else ((groatref13_Copy s_0).bind fun r4 => ((schema_Check r4).bind fun r5 => ((groatref13_Check s_0).bind fun r6 => (bif (decide (r5.1 = r6.1)) then (kr0 (decide (r5.2 = r6.2))) else (kr0 false))))))))
theorem groatlaw13_SchemaChecks_s0_bind {R S : Type} (F : R → Option S) (s_0 : (Int × Int × (List (Int × Int × Int × Int × Int × Unit)) × Unit)) (kr0 : Bool → Option R) : (groatlaw13_SchemaChecks_s0 s_0 kr0).bind F = groatlaw13_SchemaChecks_s0 s_0 (fun a0 => (kr0 a0).bind F) := by
  simp only [groatlaw13_SchemaChecks_s0, cond_bind, within_bind, none_bind, some_bind, sum_bind, bind_bind]
def groatlaw13_SchemaChecks (s_0 : (Int × Int × (List (Int × Int × Int × Int × Int × Unit)) × Unit)) : Option Bool :=
  groatlaw13_SchemaChecks_s0 s_0 (fun a0 => some a0)
def groatlaw13_SchemaSame_s0 {R : Type} (a_0 : (Int × Int × (List (Int × Int × Int × Int × Int × Unit)) × Unit)) (b_1 : (Int × Int × (List (Int × Int × Int × Int × Int × Unit)) × Unit)) (kr0 : Bool → Option R) : Option R :=
  ((groatlaw13_awake).bind fun r1 => (bif (!r1) then ((groatlaw13_awake).bind fun r2 => (kr0 r2)) else (bif (decide ((300 : Int) < ((List.length a_0.2.2.1) : Int))) then ((groatlaw13_awake).bind fun r3 => (kr0 r3)) else (bif (decide ((300 : Int) < ((List.length b_1.2.2.1) : Int))) then ((groatlaw13_awake).bind fun r4 => (kr0 r4)) else ((schema_Same a_0 b_1).bind fun r5 => ((groatref13_Same a_0 b_1).bind fun r6 => (bif (r5 == r6) then ((schema_Same b_1 a_0).bind fun r7 => ((schema_Same a_0 b_1).bind fun r8 => (kr0 (r7 == r8)))) else (kr0 false))))))))
theorem groatlaw13_SchemaSame_s0_bind {R S : Type} (F : R → Option S) (a_0 : (Int × Int × (List (Int × Int × Int × Int × Int × Unit)) × Unit)) (b_1 : (Int × Int × (List (Int × Int × Int × Int × Int × Unit)) × Unit)) (kr0 : Bool → Option R) : (groatlaw13_SchemaSame_s0 a_0 b_1 kr0).bind F = groatlaw13_SchemaSame_s0 a_0 b_1 (fun a0 => (kr0 a0).bind F) := by
  simp only [groatlaw13_SchemaSame_s0, cond_bind, within_bind, none_bind, some_bind, sum_bind, bind_bind]
def groatlaw13_SchemaSame (a_0 : (Int × Int × (List (Int × Int × Int × Int × Int × Unit)) × Unit)) (b_1 : (Int × Int × (List (Int × Int × Int × Int × Int × Unit)) × Unit)) : Option Bool :=
  groatlaw13_SchemaSame_s0 a_0 b_1 (fun a0 => some a0)
def groatlaw13_SchemaFinds_s0 {R : Type} (s_0 : (Int × Int × (List (Int × Int × Int × Int × Int × Unit)) × Unit)) (no_1 : Int) (kr0 : Bool → Option R) : Option R :=
  ((groatlaw13_awake).bind fun r1 => (bif (!r1) then ((groatlaw13_awake).bind fun r2 => (kr0 r2)) else (bif (decide ((300 : Int) < ((List.length s_0.2.2.1) : Int))) then ((groatlaw13_awake).bind fun r3 => (kr0 r3)) else ((groatref13_Copy s_0).bind fun r4 => ((schema_Find r4 no_1).bind fun r5 => ((groatref13_Find s_0 no_1).bind fun r6 => ((groatref13_Numbers s_0).bind fun r7 => ((groatref05_Halves r7).bind fun r8 => ((groatref13_Copy s_0).bind fun r9 => ((schema_Set r9).bind fun r10 => ((fields_Bits r8.1 r8.2).bind fun r11 => (bif (!((decide (r10.1 = r11.1)) && ((decide (r10.2.1 = r11.2.1)) && true))) then (kr0 false) else (bif (!(r5.2 == (decide ((0 : Int) ≤ r6)))) then (kr0 false) else (bif (!r5.2) then (bif ((decide (r5.1.1 = (0 : Int))) && ((decide (r5.1.2.1 = (0 : Int))) && ((decide (r5.1.2.2.1 = (0 : Int))) && ((decide (r5.1.2.2.2.1 = (0 : Int))) && ((decide (r5.1.2.2.2.2.1 = (0 : Int))) && true))))) then (kr0 true) else (bif r5.2 then (within r6 (List.length s_0.2.2.1) (kr0 ((decide (r5.1.1 = (List.getD s_0.2.2.1 (r6).toNat ((0 : Int), (0 : Int), (0 : Int), (0 : Int), (0 : Int), ())).1)) && ((decide (r5.1.2.1 = (List.getD s_0.2.2.1 (r6).toNat ((0 : Int), (0 : Int), (0 : Int), (0 : Int), (0 : Int), ())).2.1)) && ((decide (r5.1.2.2.1 = (List.getD s_0.2.2.1 (r6).toNat ((0 : Int), (0 : Int), (0 : Int), (0 : Int), (0 : Int), ())).2.2.1)) && ((decide (r5.1.2.2.2.1 = (List.getD s_0.2.2.1 (r6).toNat ((0 : Int), (0 : Int), (0 : Int), (0 : Int), (0 : Int), ())).2.2.2.1)) && ((decide (r5.1.2.2.2.2.1 = (List.getD s_0.2.2.1 (r6).toNat ((0 : Int), (0 : Int), (0 : Int), (0 : Int), (0 : Int), ())).2.2.2.2.1)) && true))))))) else (kr0 false))) else (bif r5.2 then (within r6 (List.length s_0.2.2.1) (kr0 ((decide (r5.1.1 = (List.getD s_0.2.2.1 (r6).toNat ((0 : Int), (0 : Int), (0 : Int), (0 : Int), (0 : Int), ())).1)) && ((decide (r5.1.2.1 = (List.getD s_0.2.2.1 (r6).toNat ((0 : Int), (0 : Int), (0 : Int), (0 : Int), (0 : Int), ())).2.1)) && ((decide (r5.1.2.2.1 = (List.getD s_0.2.2.1 (r6).toNat ((0 : Int), (0 : Int), (0 : Int), (0 : Int), (0 : Int), ())).2.2.1)) && ((decide (r5.1.2.2.2.1 = (List.getD s_0.2.2.1 (r6).toNat ((0 : Int), (0 : Int), (0 : Int), (0 : Int), (0 : Int), ())).2.2.2.1)) && ((decide (r5.1.2.2.2.2.1 = (List.getD s_0.2.2.1 (r6).toNat ((0 : Int), (0 : Int), (0 : Int), (0 : Int), (0 : Int), ())).2.2.2.2.1)) && true))))))) else (kr0 false))))))))))))))))
theorem groatlaw13_SchemaFinds_s0_bind {R S : Type} (F : R → Option S) (s_0 : (Int × Int × (List (Int × Int × Int × Int × Int × Unit)) × Unit)) (no_1 : Int) (kr0 : Bool → Option R) : (groatlaw13_SchemaFinds_s0 s_0 no_1 kr0).bind F = groatlaw13_SchemaFinds_s0 s_0 no_1 (fun a0 => (kr0 a0).bind F) := by
  simp only [groatlaw13_SchemaFinds_s0, cond_bind, within_bind, none_bind, some_bind, sum_bind, bind_bind]
def groatlaw13_SchemaFinds (s_0 : (Int × Int × (List (Int × Int × Int × Int × Int × Unit)) × Unit)) (no_1 : Int) : Option Bool :=
  groatlaw13_SchemaFinds_s0 s_0 no_1 (fun a0 => some a0)
def groatlaw13_SchemaRestricts_s0 {R : Type} (s_0 : (Int × Int × (List (Int × Int × Int × Int × Int × Unit)) × Unit)) (high_1 : Int) (low_2 : Int) (kr0 : Bool → Option R) (go0 : Int → Int → (List (Int × Int × Int × Int × Int × Unit)) → Int → Int → (Int × Int × (List (Int × Int × Int × Int × Int × Unit)) × Unit) → (Int × Int × (List (Int × Int × Int × Int × Int × Unit)) × Unit) → (Int × Int × (List (Int × Int × Int × Int × Int × Unit)) × Unit) → Option R) : Option R :=
  ((groatlaw13_awake).bind fun r1 => (bif (!r1) then ((groatlaw13_awake).bind fun r2 => (kr0 r2)) else (bif (decide ((300 : Int) < ((List.length s_0.2.2.1) : Int))) then ((groatlaw13_awake).bind fun r3 => (kr0 r3)) else ((groatref13_Copy s_0).bind fun r4 => ((fields_Bits high_1 low_2).bind fun r5 => ((schema_Restrict r4 r5).bind fun r6 => (go0 high_1 low_2 s_0.2.2.1 ((List.length s_0.2.2.1) : Int) (0 : Int) s_0 r6 (s_0.1, s_0.2.1, ([] : List (Int × Int × Int × Int × Int × Unit)), ()))))))))
theorem groatlaw13_SchemaRestricts_s0_bind {R S : Type} (F : R → Option S) (s_0 : (Int × Int × (List (Int × Int × Int × Int × Int × Unit)) × Unit)) (high_1 : Int) (low_2 : Int) (kr0 : Bool → Option R) (go0 : Int → Int → (List (Int × Int × Int × Int × Int × Unit)) → Int → Int → (Int × Int × (List (Int × Int × Int × Int × Int × Unit)) × Unit) → (Int × Int × (List (Int × Int × Int × Int × Int × Unit)) × Unit) → (Int × Int × (List (Int × Int × Int × Int × Int × Unit)) × Unit) → Option R) : (groatlaw13_SchemaRestricts_s0 s_0 high_1 low_2 kr0 go0).bind F = groatlaw13_SchemaRestricts_s0 s_0 high_1 low_2 (fun a0 => (kr0 a0).bind F) (fun a0 a1 a2 a3 a4 a5 a6 a7 => (go0 a0 a1 a2 a3 a4 a5 a6 a7).bind F) := by
  simp only [groatlaw13_SchemaRestricts_s0, cond_bind, within_bind, none_bind, some_bind, sum_bind, bind_bind]
def groatlaw13_SchemaRestricts_s1 {R : Type} (high_1 : Int) (low_2 : Int) (t32 : (List (Int × Int × Int × Int × Int × Unit))) (t33 : Int) (t34 : Int) (bt3 : (Int × Int × (List (Int × Int × Int × Int × Int × Unit)) × Unit)) (bt7 : (Int × Int × (List (Int × Int × Int × Int × Int × Unit)) × Unit)) (bt8 : (Int × Int × (List (Int × Int × Int × Int × Int × Unit)) × Unit)) (nx0 : Int → Int → (List (Int × Int × Int × Int × Int × Unit)) → Int → Int → (Int × Int × (List (Int × Int × Int × Int × Int × Unit)) × Unit) → (Int × Int × (List (Int × Int × Int × Int × Int × Unit)) × Unit) → (Int × Int × (List (Int × Int × Int × Int × Int × Unit)) × Unit) → Option R) (ex0_0 : (Int × Int × (List (Int × Int × Int × Int × Int × Unit)) × Unit) → (Int × Int × (List (Int × Int × Int × Int × Int × Unit)) × Unit) → (Int × Int × (List (Int × Int × Int × Int × Int × Unit)) × Unit) → Option R) : Option R :=
  (bif (decide (t34 < t33)) then (within t34 (List.length t32) ((groatref05_Has high_1 low_2 (List.getD t32 (t34).toNat ((0 : Int), (0 : Int), (0 : Int), (0 : Int), (0 : Int), ())).1).bind fun r7 => (bif r7 then (bif (decide (((List.length bt8.2.2.1) + (List.length ([(List.getD t32 (t34).toNat ((0 : Int), (0 : Int), (0 : Int), (0 : Int), (0 : Int), ()))] : List (Int × Int × Int × Int × Int × Unit)))) * 40 ≤ 140737488355328)) then (nx0 high_1 low_2 t32 t33 (IntKind.i64.wrap (t34 + (1 : Int))) bt3 bt7 (bt8.1, bt8.2.1, (bt8.2.2.1 ++ ([(List.getD t32 (t34).toNat ((0 : Int), (0 : Int), (0 : Int), (0 : Int), (0 : Int), ()))] : List (Int × Int × Int × Int × Int × Unit))), ())) else none) else (nx0 high_1 low_2 t32 t33 (IntKind.i64.wrap (t34 + (1 : Int))) bt3 bt7 bt8)))) else (ex0_0 bt3 bt7 bt8))
theorem groatlaw13_SchemaRestricts_s1_bind {R S : Type} (F : R → Option S) (high_1 : Int) (low_2 : Int) (t32 : (List (Int × Int × Int × Int × Int × Unit))) (t33 : Int) (t34 : Int) (bt3 : (Int × Int × (List (Int × Int × Int × Int × Int × Unit)) × Unit)) (bt7 : (Int × Int × (List (Int × Int × Int × Int × Int × Unit)) × Unit)) (bt8 : (Int × Int × (List (Int × Int × Int × Int × Int × Unit)) × Unit)) (nx0 : Int → Int → (List (Int × Int × Int × Int × Int × Unit)) → Int → Int → (Int × Int × (List (Int × Int × Int × Int × Int × Unit)) × Unit) → (Int × Int × (List (Int × Int × Int × Int × Int × Unit)) × Unit) → (Int × Int × (List (Int × Int × Int × Int × Int × Unit)) × Unit) → Option R) (ex0_0 : (Int × Int × (List (Int × Int × Int × Int × Int × Unit)) × Unit) → (Int × Int × (List (Int × Int × Int × Int × Int × Unit)) × Unit) → (Int × Int × (List (Int × Int × Int × Int × Int × Unit)) × Unit) → Option R) : (groatlaw13_SchemaRestricts_s1 high_1 low_2 t32 t33 t34 bt3 bt7 bt8 nx0 ex0_0).bind F = groatlaw13_SchemaRestricts_s1 high_1 low_2 t32 t33 t34 bt3 bt7 bt8 (fun a0 a1 a2 a3 a4 a5 a6 a7 => (nx0 a0 a1 a2 a3 a4 a5 a6 a7).bind F) (fun a0 a1 a2 => (ex0_0 a0 a1 a2).bind F) := by
  simp only [groatlaw13_SchemaRestricts_s1, cond_bind, within_bind, none_bind, some_bind, sum_bind, bind_bind]
def groatlaw13_SchemaRestricts_s2 {R : Type} (bt3 : (Int × Int × (List (Int × Int × Int × Int × Int × Unit)) × Unit)) (bt7 : (Int × Int × (List (Int × Int × Int × Int × Int × Unit)) × Unit)) (bt8 : (Int × Int × (List (Int × Int × Int × Int × Int × Unit)) × Unit)) (kr0 : Bool → Option R) : Option R :=
  ((groatref13_Same bt7 bt8).bind fun r8 => (bif r8 then ((groatref13_Right bt3).bind fun r9 => (bif (!r9) then (kr0 true) else ((groatref13_Right bt7).bind fun r10 => (kr0 r10)))) else (kr0 false)))
theorem groatlaw13_SchemaRestricts_s2_bind {R S : Type} (F : R → Option S) (bt3 : (Int × Int × (List (Int × Int × Int × Int × Int × Unit)) × Unit)) (bt7 : (Int × Int × (List (Int × Int × Int × Int × Int × Unit)) × Unit)) (bt8 : (Int × Int × (List (Int × Int × Int × Int × Int × Unit)) × Unit)) (kr0 : Bool → Option R) : (groatlaw13_SchemaRestricts_s2 bt3 bt7 bt8 kr0).bind F = groatlaw13_SchemaRestricts_s2 bt3 bt7 bt8 (fun a0 => (kr0 a0).bind F) := by
  simp only [groatlaw13_SchemaRestricts_s2, cond_bind, within_bind, none_bind, some_bind, sum_bind, bind_bind]
def groatlaw13_SchemaRestricts_l0 : Nat → Int → Int → (List (Int × Int × Int × Int × Int × Unit)) → Int → Int → (Int × Int × (List (Int × Int × Int × Int × Int × Unit)) × Unit) → (Int × Int × (List (Int × Int × Int × Int × Int × Unit)) × Unit) → (Int × Int × (List (Int × Int × Int × Int × Int × Unit)) × Unit) → Option ((Int × Int × (List (Int × Int × Int × Int × Int × Unit)) × Unit) × (Int × Int × (List (Int × Int × Int × Int × Int × Unit)) × Unit) × (Int × Int × (List (Int × Int × Int × Int × Int × Unit)) × Unit))
  | 0, _, _, _, _, _, _, _, _ => none
  | k + 1, v0, v1, v2, v3, v4, v5, v6, v7 => groatlaw13_SchemaRestricts_s1 v0 v1 v2 v3 v4 v5 v6 v7 (fun a0 a1 a2 a3 a4 a5 a6 a7 => groatlaw13_SchemaRestricts_l0 k a0 a1 a2 a3 a4 a5 a6 a7) (fun a0 a1 a2 => some (a0, a1, a2))
def groatlaw13_SchemaRestricts (s_0 : (Int × Int × (List (Int × Int × Int × Int × Int × Unit)) × Unit)) (high_1 : Int) (low_2 : Int) : Option Bool :=
  groatlaw13_SchemaRestricts_s0 s_0 high_1 low_2 (fun a0 => some a0) (fun a0 a1 a2 a3 a4 a5 a6 a7 => (groatlaw13_SchemaRestricts_l0 FUEL a0 a1 a2 a3 a4 a5 a6 a7).bind fun e => groatlaw13_SchemaRestricts_s2 e.1 e.2.1 e.2.2 (fun a0 => some a0))
def groatlaw13_SchemaOrder_s0 {R : Type} (s_0 : (Int × Int × (List (Int × Int × Int × Int × Int × Unit)) × Unit)) (kr0 : Bool → Option R) (go0 : (List (Int × Int × Int × Int × Int × Unit)) → Int → Int → (Int × Int × (List (Int × Int × Int × Int × Int × Unit)) × Unit) → Option R) : Option R :=
  ((groatlaw13_awake).bind fun r1 => (bif (!r1) then ((groatlaw13_awake).bind fun r2 => (kr0 r2)) else (bif (decide ((300 : Int) < ((List.length s_0.2.2.1) : Int))) then ((groatlaw13_awake).bind fun r3 => (kr0 r3)) else ((groatref13_Right s_0).bind fun r4 => (bif (!r4) then ((groatlaw13_awake).bind fun r5 => (kr0 r5)) else (go0 s_0.2.2.1 ((List.length s_0.2.2.1) : Int) (0 : Int) s_0))))))
theorem groatlaw13_SchemaOrder_s0_bind {R S : Type} (F : R → Option S) (s_0 : (Int × Int × (List (Int × Int × Int × Int × Int × Unit)) × Unit)) (kr0 : Bool → Option R) (go0 : (List (Int × Int × Int × Int × Int × Unit)) → Int → Int → (Int × Int × (List (Int × Int × Int × Int × Int × Unit)) × Unit) → Option R) : (groatlaw13_SchemaOrder_s0 s_0 kr0 go0).bind F = groatlaw13_SchemaOrder_s0 s_0 (fun a0 => (kr0 a0).bind F) (fun a0 a1 a2 a3 => (go0 a0 a1 a2 a3).bind F) := by
  simp only [groatlaw13_SchemaOrder_s0, cond_bind, within_bind, none_bind, some_bind, sum_bind, bind_bind]
def groatlaw13_SchemaOrder_s1 {R : Type} (t23 : (List (Int × Int × Int × Int × Int × Unit))) (t24 : Int) (t25 : Int) (bt1 : (Int × Int × (List (Int × Int × Int × Int × Int × Unit)) × Unit)) (ex0_0 : Bool → (Int × Int × (List (Int × Int × Int × Int × Int × Unit)) × Unit) → Option R) (nx0 : (List (Int × Int × Int × Int × Int × Unit)) → Int → Int → (Int × Int × (List (Int × Int × Int × Int × Int × Unit)) × Unit) → Option R) (ex0_1 : (Int × Int × (List (Int × Int × Int × Int × Int × Unit)) × Unit) → Option R) : Option R :=
  (bif (decide (t25 < t24)) then (within t25 (List.length t23) ((schema_Find bt1 (List.getD t23 (t25).toNat ((0 : Int), (0 : Int), (0 : Int), (0 : Int), (0 : Int), ())).1).bind fun r6 => (bif (!r6.2) then (ex0_0 false bt1) else (bif (!((decide (r6.1.1 = (List.getD t23 (t25).toNat ((0 : Int), (0 : Int), (0 : Int), (0 : Int), (0 : Int), ())).1)) && ((decide (r6.1.2.1 = (List.getD t23 (t25).toNat ((0 : Int), (0 : Int), (0 : Int), (0 : Int), (0 : Int), ())).2.1)) && ((decide (r6.1.2.2.1 = (List.getD t23 (t25).toNat ((0 : Int), (0 : Int), (0 : Int), (0 : Int), (0 : Int), ())).2.2.1)) && ((decide (r6.1.2.2.2.1 = (List.getD t23 (t25).toNat ((0 : Int), (0 : Int), (0 : Int), (0 : Int), (0 : Int), ())).2.2.2.1)) && ((decide (r6.1.2.2.2.2.1 = (List.getD t23 (t25).toNat ((0 : Int), (0 : Int), (0 : Int), (0 : Int), (0 : Int), ())).2.2.2.2.1)) && true)))))) then (ex0_0 false bt1) else (nx0 t23 t24 (IntKind.i64.wrap (t25 + (1 : Int))) bt1))))) else (ex0_1 bt1))
theorem groatlaw13_SchemaOrder_s1_bind {R S : Type} (F : R → Option S) (t23 : (List (Int × Int × Int × Int × Int × Unit))) (t24 : Int) (t25 : Int) (bt1 : (Int × Int × (List (Int × Int × Int × Int × Int × Unit)) × Unit)) (ex0_0 : Bool → (Int × Int × (List (Int × Int × Int × Int × Int × Unit)) × Unit) → Option R) (nx0 : (List (Int × Int × Int × Int × Int × Unit)) → Int → Int → (Int × Int × (List (Int × Int × Int × Int × Int × Unit)) × Unit) → Option R) (ex0_1 : (Int × Int × (List (Int × Int × Int × Int × Int × Unit)) × Unit) → Option R) : (groatlaw13_SchemaOrder_s1 t23 t24 t25 bt1 ex0_0 nx0 ex0_1).bind F = groatlaw13_SchemaOrder_s1 t23 t24 t25 bt1 (fun a0 a1 => (ex0_0 a0 a1).bind F) (fun a0 a1 a2 a3 => (nx0 a0 a1 a2 a3).bind F) (fun a0 => (ex0_1 a0).bind F) := by
  simp only [groatlaw13_SchemaOrder_s1, cond_bind, within_bind, none_bind, some_bind, sum_bind, bind_bind]
def groatlaw13_SchemaOrder_s2 {R : Type} (t2 : Bool) (bt1 : (Int × Int × (List (Int × Int × Int × Int × Int × Unit)) × Unit)) (kr0 : Bool → Option R) : Option R :=
  (kr0 t2)
theorem groatlaw13_SchemaOrder_s2_bind {R S : Type} (F : R → Option S) (t2 : Bool) (bt1 : (Int × Int × (List (Int × Int × Int × Int × Int × Unit)) × Unit)) (kr0 : Bool → Option R) : (groatlaw13_SchemaOrder_s2 t2 bt1 kr0).bind F = groatlaw13_SchemaOrder_s2 t2 bt1 (fun a0 => (kr0 a0).bind F) := by
  simp only [groatlaw13_SchemaOrder_s2, cond_bind, within_bind, none_bind, some_bind, sum_bind, bind_bind]
def groatlaw13_SchemaOrder_s3 {R : Type} (bt1 : (Int × Int × (List (Int × Int × Int × Int × Int × Unit)) × Unit)) (kr0 : Bool → Option R) : Option R :=
  ((schema_Set bt1).bind fun r7 => ((fields_Set_Len r7).bind fun r8 => (bif (decide (r8 = ((List.length bt1.2.2.1) : Int))) then ((schema_Restrict bt1 r7).bind fun r9 => ((groatref13_Same r9 bt1).bind fun r10 => (bif r10 then ((groatref13_Copy bt1).bind fun r11 => ((schema_Same bt1 r11).bind fun r12 => (kr0 r12))) else (kr0 false)))) else (kr0 false))))
theorem groatlaw13_SchemaOrder_s3_bind {R S : Type} (F : R → Option S) (bt1 : (Int × Int × (List (Int × Int × Int × Int × Int × Unit)) × Unit)) (kr0 : Bool → Option R) : (groatlaw13_SchemaOrder_s3 bt1 kr0).bind F = groatlaw13_SchemaOrder_s3 bt1 (fun a0 => (kr0 a0).bind F) := by
  simp only [groatlaw13_SchemaOrder_s3, cond_bind, within_bind, none_bind, some_bind, sum_bind, bind_bind]
def groatlaw13_SchemaOrder_l0 : Nat → (List (Int × Int × Int × Int × Int × Unit)) → Int → Int → (Int × Int × (List (Int × Int × Int × Int × Int × Unit)) × Unit) → Option (Sum (Bool × (Int × Int × (List (Int × Int × Int × Int × Int × Unit)) × Unit)) (Int × Int × (List (Int × Int × Int × Int × Int × Unit)) × Unit))
  | 0, _, _, _, _ => none
  | k + 1, v0, v1, v2, v3 => groatlaw13_SchemaOrder_s1 v0 v1 v2 v3 (fun a0 a1 => some (.inl (a0, a1))) (fun a0 a1 a2 a3 => groatlaw13_SchemaOrder_l0 k a0 a1 a2 a3) (fun a0 => some (.inr a0))
def groatlaw13_SchemaOrder (s_0 : (Int × Int × (List (Int × Int × Int × Int × Int × Unit)) × Unit)) : Option Bool :=
  groatlaw13_SchemaOrder_s0 s_0 (fun a0 => some a0) (fun a0 a1 a2 a3 => (groatlaw13_SchemaOrder_l0 FUEL a0 a1 a2 a3).bind fun e => (Sum.elim (fun (we : (Bool × (Int × Int × (List (Int × Int × Int × Int × Int × Unit)) × Unit))) => groatlaw13_SchemaOrder_s2 we.1 we.2 (fun a0 => some a0)) (fun (we : (Int × Int × (List (Int × Int × Int × Int × Int × Unit)) × Unit)) => groatlaw13_SchemaOrder_s3 we (fun a0 => some a0)) e))
end Groat
