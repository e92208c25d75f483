/- No condition. -/
import Derived.Test.YtkgpjibbdpikcaaGreatDoorK0
import Derived.MapKept
import Derived.Laws.CopyRow
import Derived.OpenShut
import Derived.Deep.Slices
import Derived.Shelf.Strings.Repeat
set_option linter.unusedVariables false
set_option linter.unusedSimpArgs false
set_option maxRecDepth 100000
namespace Go.Ref
open Go
variable {P : Program} {E : Env} {X : Cfg} {s : State} {a : Act} {o : Oper} {u : Out}
inductive Grown (w w' : World) (e : TypeId) (k : Nat) (vb v' : Value) (cx cy : List Value) (n : Nat) : Prop where
  | same (h : w' = w) (hv : v' = vb) (hy : cy = [])
  | room (g cap : Nat) (cur cur' : Array Value) (hb : ∃ m, vb = .slice (some ⟨g, 0, none⟩) m cap) (hg : w.heap[g]? = some (.cells cur e (0, 0))) (hv : v' = .slice (some ⟨g, 0, none⟩) n cap) (hn : n ≤ cap) (hm : cap ≤ maxLen)
      (hw : w' = w.setRow g cur') (hs : cur'.size = cap * k) (ht : cur'.toList.take (n * k) = cx ++ cy)
  | new (cap : Nat) (cur' : Array Value) (hv : v' = .slice (some ⟨w.heap.size, 0, none⟩) n cap) (hn : n ≤ cap) (hm : cap ≤ maxLen) (hw : w' = w.drew.alloc (.cells cur' e)) (hs : cur'.size = cap * k) (ht : cur'.toList.take (n * k) = cx ++ cy)
theorem z1g4 (hE : EnvOk P E) {T ty e : TypeId} {t : Ty} (hT : E.ty T = some (.sl e t)) (hk : 0 < t.cells) (hby : E.bytes e ≠ 0) {xs ys : List (El t)} {vb vx : Value} {pl : Place}
    (hown : OwnAt X pl e t.cells xs.length vb) {cx cy : List Value} (rx : Rep X (.arr xs.length t) xs cx) (sx : ∀ g m c, vb = .slice (some ⟨g, 0, none⟩) m c → ∀ (i : Nat) v, cx[i]? = some v → X.sees ((⟨g, 0, none⟩ : Addr).add i) v)
    (ry : Rep X (.arr ys.length t) ys cy) (hvx : ∃ A c, vx = .slice A ys.length c ∧ (A = none → ys = []) ∧ ∀ ad, A = some ad → ∀ (i : Nat) v, cy[i]? = some v → X.sees (ad.add i) v)
    (hbound : (xs.length + ys.length) * E.bytes e ≤ 140737488355328) :
    ∃ v' w', (Builtin.append_ #[T, T] ty #[vb, vx]).run P X.w = .ok v' w' ∧ Grown X.w w' e t.cells vb v' cx cy (xs.length + ys.length) ∧ (v' = .slice none 0 0 → xs.length + ys.length = 0) := by
  obtain ⟨hu, he⟩ := (hE.ty T _ hT).und
  obtain ⟨i, hi, hsize, hbytes, hz⟩ := (hE.ty e t he).info
  have hzs : (mkv t (zx t)).cells.size = t.cells := by rw [z2l (z2g X t)]; simp [z24]
  have hlx : cx.length = xs.length * t.cells := rx.2.1
  have hly : cy.length = ys.length * t.cells := ry.2.1
  have h1 : ∀ u ∈ cy, u.oneCell' = true := ry.one
  have hle : xs.length + ys.length ≤ 140737488355328 := Nat.le_trans (Nat.le_mul_of_pos_right _ (Nat.pos_of_ne_zero hby)) hbound
  have h63 : xs.length + ys.length ≤ maxLen := by simp only [maxLen]; omega
  obtain ⟨A, c, rfl, hA, hsy⟩ := hvx
  cases A with
  | none =>
    have hys := hA rfl
    subst hys
    have hcy : cy = [] := List.eq_nil_of_length_eq_zero (by simpa using hly)
    subst hcy
    rcases hown with ⟨rfl, hn⟩ | ⟨g, cap, cur, rfl, hg, hnc, hcm, hcs, how⟩
    · refine ⟨.slice none 0 0, X.w, ?_, .same rfl rfl rfl, fun _ => by simp [hn]⟩
      simp [Builtin.append_, run_underlying hu, sizeOf, typeInfo, hi, Builtin.lenOf, Builtin.firstCells]
    · refine ⟨_, X.w, ?_, .same rfl rfl rfl, fun e => by cases e⟩
      simp [Builtin.append_, run_underlying hu, sizeOf, typeInfo, hi, Builtin.lenOf, Builtin.firstCells, hnc, storeCells]
  | some ad =>
    have hny : ∀ j u, cy[j]? = some u → X.w.cell? (ad.add j) = some u := fun j u hj => (hsy ad rfl j u hj).2.1
    have hcells : ∀ (old : Nat), (cx.toArray ++ cy.toArray ++ Builtin.zeroCells (mkv t (zx t)).cells (grownCap X.w (xs.length + ys.length) old e - (xs.length + ys.length))).size = grownCap X.w (xs.length + ys.length) old e * t.cells ∧
        (cx.toArray ++ cy.toArray ++ Builtin.zeroCells (mkv t (zx t)).cells (grownCap X.w (xs.length + ys.length) old e - (xs.length + ys.length))).toList.take ((xs.length + ys.length) * t.cells) = cx ++ cy := by
      intro old
      have hge := grownCap_ge X.w (xs.length + ys.length) old e
      refine ⟨?_, ?_⟩
      · simp only [Array.size_append, List.size_toArray, size_zeroCells, hzs, hlx, hly, ← Nat.add_mul]
        congr 1
        omega
      · have hl : (cx ++ cy).length = (xs.length + ys.length) * t.cells := by rw [List.length_append, hlx, hly, Nat.add_mul]
        rw [← hl]
        simp only [Array.toList_append]
        exact List.take_left
    rcases hown with ⟨rfl, hn⟩ | ⟨g, cap, cur, rfl, hg, hnc, hcm, hcs, how⟩
    · have hcx : cx = [] := List.eq_nil_of_length_eq_zero (by rw [hlx, hn, Nat.zero_mul])
      subst hcx
      by_cases hm : ys.length = 0
      · have hcy : cy = [] := List.eq_nil_of_length_eq_zero (by rw [hly, hm, Nat.zero_mul])
        subst hcy
        refine ⟨.slice none 0 0, X.w, ?_, .same rfl rfl rfl, fun _ => by omega⟩
        simp [Builtin.append_, run_underlying hu, sizeOf, typeInfo, hi, Builtin.lenOf, Builtin.firstCells, hm, loadCells, loadCellsFrom]
      · have hxl : xs.length = 0 := hn
        rw [hxl, Nat.zero_add] at hbound hle h63
        have hr := run_append_nil (P := P) X.w T ty e i (mkv t (zx t)) hu hi hz ad ys.length c cy (by rw [hsize]; exact hly) hny (by omega) (by omega) (by rw [hbytes]; omega)
        obtain ⟨c1, c2⟩ := hcells 0
        have hge := grownCap_ge X.w (xs.length + ys.length) 0 e
        have hcm := grownCap_le_maxLen X.w (xs.length + ys.length) 0 e (by rw [hxl, Nat.zero_add]; exact h63)
        refine ⟨_, _, hr, .new (grownCap X.w (xs.length + ys.length) 0 e) _ (by rw [hxl, Nat.zero_add]) hge hcm ?_ c1 c2, fun e => by cases e⟩
        rw [hxl, Nat.zero_add]
        simp
    · by_cases hroom : xs.length + ys.length ≤ cap
      · have hfit : xs.length * i.size + cy.length ≤ cur.size := by rw [hsize, hly, hcs, ← Nat.add_mul]; exact Nat.mul_le_mul_right _ hroom
        have hr := run_append_room (P := P) X.w T ty e i hu hi g xs.length cap cur hg ad ys.length c cy (by rw [hsize]; exact hly) hny h1 hroom hfit
        refine ⟨_, _, hr, .room g cap cur _ ⟨_, rfl⟩ hg rfl hroom hcm rfl ?_ ?_, fun e => by cases e⟩
        · simp only [List.size_toArray, List.length_append, List.length_take, List.length_drop, Array.length_toList]
          omega
        · have htake : cur.toList.take (xs.length * i.size) = cx := by
            rw [hsize]
            apply List.ext_getElem?
            intro q
            by_cases hq : q < xs.length * t.cells
            · rw [List.getElem?_take, if_pos hq]
              have hxq := List.getElem?_eq_getElem (l := cx) (i := q) (by rw [hlx]; exact hq)
              have := (sx g _ _ rfl q _ hxq).2.1
              rw [z23, Nat.zero_add] at this
              simp only [World.cell?, hg] at this
              rw [hxq]
              simpa using this
            · rw [List.getElem?_eq_none (by rw [List.length_take]; omega), List.getElem?_eq_none (by omega)]
          have hl : (cx ++ cy).length = (xs.length + ys.length) * t.cells := by rw [List.length_append, hlx, hly, Nat.add_mul]
          rw [htake, ← hl]
          simp only [List.take_left]
      · have holds : ∀ j u, cx[j]? = some u → X.w.cell? ((⟨g, 0, none⟩ : Addr).add j) = some u := fun j u hj => (sx g _ _ rfl j u hj).2.1
        have hr := run_append_grow (P := P) X.w T ty e i (mkv t (zx t)) hu hi hz ⟨g, 0, none⟩ xs.length cap cx (by rw [hsize]; exact hlx) holds ad ys.length c cy (by rw [hsize]; exact hly) hny (by omega) (by omega) (growslice_fits (by omega) (by rw [hbytes]; exact hbound))
        obtain ⟨c1, c2⟩ := hcells cap
        exact ⟨_, _, hr, .new _ _ rfl (grownCap_ge _ _ _ _) (grownCap_le_maxLen _ _ _ _ h63) rfl c1 c2, fun e => by cases e⟩
theorem OwnAt.give {X : Cfg} {s : State} {pl : Place} {e : TypeId} {k n : Nat} {v : Value} (h : OwnAt X pl e k n v) (hf : ¬ Flag s pl) (q : Place) : ∃ Y, Turn s X Y ∧ OwnAt Y q e k n v := by
  rcases h with h | ⟨g, cap, cur, h1, h2, h3, h4, h5, h6⟩
  · exact ⟨X, Turn.refl s X, .inl h⟩
  · refine ⟨{ X with ow := fun g' => if g' = g then .row q (n * k) else X.ow g' }, ⟨rfl, rfl, fun g' => ?_⟩, .inr ⟨g, cap, cur, h1, h2, h3, h4, h5, by simp⟩⟩
    by_cases e : g' = g
    · subst e; exact .inr ⟨pl, _, q, h6, hf, by simp⟩
    · exact .inl (by simp [e])
theorem z27x {R : Type} {t t' : Ty} {x : El t'} {w : List (List Nat)} {K : El t → Option R} {z : R} (h : (SV.dat t' x w).el t K = some z) : ∃ he : t'.eqb t = true, K (Ty.cast he x) = some z := by
  simp only [SV.el] at h
  split at h
  · rename_i he; exact ⟨he, h⟩
  · cases h
theorem z1e5 (hE : EnvOk P E) (hr : Rel X s a) {ops : List Oper} {asv : Array Operand} {ts : Array TypeId} (ho : o.op = .call ⟨.builtin .append, asv, ts⟩) {C : FuncId → Fun' Out} (h : act E C ops o s some = some u) : Done P X s a o u := by
  unfold act at h
  simp only [ho] at h
  split at h
  case h_2 => cases h
  rename_i b x T U hxs hTs
  have has : asv = #[b, x] := by rw [← Array.toArray_toList (xs := asv), hxs]
  have hts : ts = #[T, U] := by rw [← Array.toArray_toList (xs := ts), hTs]
  subst has hts
  have hb := hr.op1 b
  have hx := hr.op1 x
  unfold zfu at h
  split at h
  case isTrue => cases h
  rename_i hTU
  have hTU : T = U := by
    have : T.beq U = true := by cases hb' : Nat.beq T U <;> simp_all
    exact Nat.eq_of_beq_eq_true this
  subst hTU
  split at h
  case h_2 => cases h
  rename_i e t hT
  split at h
  case isTrue => cases h
  rename_i h0
  have h0 : Nat.beq (E.bytes e) 0 = false ∧ Nat.beq t.cells 0 = false := by
    cases h1 : Nat.beq (E.bytes e) 0 <;> cases h2 : Nat.beq t.cells 0 <;> simp_all
  have hby : E.bytes e ≠ 0 := fun e0 => by rw [e0] at h0; simp at h0
  have hk : 0 < t.cells := by
    rcases Nat.eq_zero_or_pos t.cells with e0 | e0
    · rw [e0] at h0; simp at h0
    · exact e0
  -- what holds of any base and any tail
  have key : ∀ (xs ys : List (El t)) (cl : List (Nat × Nat)) (pl : Place), ¬ Flag (s.close cl) pl → OwnAt X pl e t.cells xs.length (a.eval b) → Rep X (.sl e t) xs [a.eval b] → Rep X (.sl e t) ys [a.eval x] →
      (xs.length + ys.length) * E.bytes e ≤ 140737488355328 → Done P X s a o { v := [.dat (.sl e t) (xs ++ ys : List (El t)) [[]]], cl := cl } := by
    intro xs ys cl pl hnf hown rxs rys hbound
    obtain ⟨A1, c1, hv1, rest1⟩ := rxs
    have e1 : a.eval b = .slice A1 xs.length c1 := by simpa using hv1
    obtain ⟨A2, c2, hv2, rest2⟩ := rys
    have e2 : a.eval x = .slice A2 ys.length c2 := by simpa using hv2
    obtain ⟨_, _, cx, rx, _, sx⟩ := zdt (X := X) (e := e) (show Rep X (.sl e t) xs [.slice A1 xs.length c1] from ⟨A1, c1, rfl, rest1⟩)
    obtain ⟨_, _, cy, ry, ny, sy⟩ := zdt (X := X) (e := e) (show Rep X (.sl e t) ys [.slice A2 ys.length c2] from ⟨A2, c2, rfl, rest2⟩)
    have sx' : ∀ g m c, a.eval b = .slice (some ⟨g, 0, none⟩) m c → ∀ (i : Nat) v, cx[i]? = some v → X.sees ((⟨g, 0, none⟩ : Addr).add i) v := by
      intro g m c hv
      rw [e1] at hv
      injection hv with hA
      exact sx _ hA
    obtain ⟨v', w', hrun, hgr, hnil⟩ := z1g4 (ty := o.type) hE hT hk hby hown rx sx' ry ⟨A2, c2, e2, ny, sy⟩ hbound
    have hlx : cx.length = xs.length * t.cells := rx.2.1
    have hly : cy.length = ys.length * t.cells := ry.2.1
    have hrun' : (execOp a.eval o).run P X.w = .ok (.value v') w' := by
      simp only [execOp, ho, resolve, invoke, builtin, Sem.run_bind, Sem.run_pure, Result.andThen_ok, List.map_toArray, List.map_cons, List.map_nil, hrun]
    have fin : ∀ (Y : Cfg), Y.w = w' → Mod (s.close cl) X Y → Rep Y (.arr (xs.length + ys.length) t) (xs ++ ys : List (El t)) (cx ++ cy) → OwnAt Y (.c (o.dst.getD 0) 0 []) e t.cells (xs.length + ys.length) v' →
        Rep Y (.sl e t) (xs ++ ys : List (El t)) [v'] → Done P X s a o { v := [.dat (.sl e t) (xs ++ ys : List (El t)) [[]]], cl := cl } := by
      intro Y hY hm hr2 ho2 hr3
      refine ⟨Y, v', .inl (by rw [hY]; exact hrun'), hm.ext, ((hr.close cl).mod hm).fin ⟨[v'], hr3, rfl, z1f5 ?_⟩ (fun id t p hmm => by simp at hmm)⟩
      rw [List.length_append]
      exact ho2
    cases hgr with
    | same h1 h2 h3 =>
      subst h2
      have hy0 : ys = [] := by
        have : ys.length = 0 := by
          rcases Nat.mul_eq_zero.1 (show ys.length * t.cells = 0 by rw [← hly, h3]; rfl) with h | h
          · exact h
          · omega
        exact List.eq_nil_of_length_eq_zero this
      subst hy0
      obtain ⟨Y, hT2, hO2⟩ := OwnAt.give (s := s.close cl) hown hnf (.c (o.dst.getD 0) 0 [])
      refine fin Y (by rw [hT2.w, h1]) hT2.mod ?_ (by simpa using hO2) ?_
      · have := (z4o rx ry)
        exact this.sees_mono (fun _ _ => hT2.sees.1)
      · rw [List.append_nil]
        exact Rep.sees_mono (fun _ _ => hT2.sees.1) (show Rep X (.sl e t) xs [a.eval b] from ⟨A1, c1, hv1, rest1⟩)
    | new cap cur' hv hn hm hw hs ht =>
      let Y : Cfg := ⟨w', fun g => if g = X.w.heap.size then .row (.c (o.dst.getD 0) 0 []) ((xs.length + ys.length) * t.cells) else X.ow g, X.β⟩
      have hkp : Keep (s.close cl) X Y := ⟨by simp [Y, hw], by simp only [Y, hw]; rfl, by simp only [Y, hw]; rfl, by simp only [Y, hw]; rfl, fun g hg => ⟨by simp only [Y]; rw [if_neg (by omega)], by simp only [Y, hw]; exact RowKit.Below.heap_alloc _ _ _ hg⟩, rfl, fun _ _ _ => rfl⟩
      have hheap : Y.w.heap[X.w.heap.size]? = some (.cells cur' e (0, 0)) := by simp only [Y, hw]; exact heap_alloc_new X.w.drew _
      have how : Y.ow X.w.heap.size = .row (.c (o.dst.getD 0) 0 []) ((xs.length + ys.length) * t.cells) := by simp [Y]
      have hrep := (z4o rx ry).sees_mono (fun _ _ => hkp.sees)
      refine fin Y rfl hkp.mod hrep (.inr ⟨_, cap, cur', hv, hheap, hn, hm, hs, how⟩) ?_
      rw [hv, ← List.length_append]
      exact zs0 (cs := cx ++ cy) hheap (by rw [List.length_append]; exact how) (by rw [List.length_append]; exact ht) (by rw [List.length_append]; exact hrep) (by rw [List.length_append]; exact hn)
    | room g cap cur cur' hb2 hg hv hn hm hw hs ht =>
      obtain ⟨m, hbv⟩ := hb2
      rcases hown with ⟨hz, _⟩ | ⟨g', cap', cur2, hv', hg', hnc, hcm, hcs, how⟩
      · rw [hz] at hbv; cases hbv
      have hgg : g' = g := by rw [hbv] at hv'; injection hv' with h1; injection h1 with h1; injection h1 with h1; exact h1.symm
      subst hgg
      have hcur : cur2 = cur := by rw [hg] at hg'; cases hg'; rfl
      subst hcur
      have hlt := zbl hg
      let Y : Cfg := ⟨w', fun k => if k = g' then .row (.c (o.dst.getD 0) 0 []) ((xs.length + ys.length) * t.cells) else X.ow k, X.β⟩
      have hheap : Y.w.heap[g']? = some (.cells cur' e (0, 0)) := by simp only [Y, hw]; exact setRow_heap X.w g' cur2 cur' e (0, 0) hg
      have how2 : Y.ow g' = .row (.c (o.dst.getD 0) 0 []) ((xs.length + ys.length) * t.cells) := by simp [Y]
      have hsees : ∀ ad v, X.sees ad v → Y.sees ad v := by
        intro ad v hsv
        by_cases heq : ad.block = g'
        · obtain ⟨k1, k2, k3⟩ := hsv
          rw [heq, how] at k3
          have k3 : ad.off < xs.length * t.cells := k3
          have had : ad = (⟨g', 0, none⟩ : Addr).add ad.off := by rw [z23, Nat.zero_add]; cases ad; simp_all
          have hxq := List.getElem?_eq_getElem (l := cx) (i := ad.off) (by rw [hlx]; exact k3)
          have hcx := (sx' g' _ _ hbv ad.off _ hxq).2.1
          rw [← had, k2] at hcx
          refine ⟨k1, ?_, ?_⟩
          · have hq : cur'.toList[ad.off]? = some v := by
              have := congrArg (fun l => l[ad.off]?) ht
              simp only [List.getElem?_take] at this
              have hle : xs.length * t.cells ≤ (xs.length + ys.length) * t.cells := Nat.mul_le_mul_right _ (Nat.le_add_right _ _)
              rw [if_pos (by omega), List.getElem?_append_left (by rw [hlx]; exact k3), hxq] at this
              rw [this]; exact hcx.symm
            simp only [World.cell?, heq, hheap, k1]
            simpa using hq
          · rw [heq, how2]
            have hle : xs.length * t.cells ≤ (xs.length + ys.length) * t.cells := Nat.mul_le_mul_right _ (Nat.le_add_right _ _)
            show ad.off < _
            omega
        · refine ⟨hsv.1, ?_, ?_⟩
          · have := hsv.2.1
            simp only [World.cell?, Y, hw] at this ⊢
            rw [setRow_other X.w g' ad.block cur' heq]
            exact this
          · simp only [Y]
            rw [if_neg heq]
            exact hsv.2.2
      have hmod : Mod (s.close cl) X Y := ⟨hsees, by simp [Y, hw], by simp only [Y, hw]; rfl, by simp only [Y, hw]; rfl, by simp only [Y, hw]; rfl, rfl, fun _ _ _ => rfl, fun k hk => by
        by_cases heq : k = g'
        · subst heq; exact .inr ⟨pl, _, how, hnf⟩
        · refine .inl ⟨by simp only [Y]; rw [if_neg heq], ?_⟩
          simp only [Y, hw]
          exact setRow_other X.w g' k cur' heq⟩
      have hrep := (z4o rx ry).sees_mono hsees
      refine fin Y rfl hmod hrep (.inr ⟨_, cap, cur', hv, hheap, hn, hm, hs, how2⟩) ?_
      rw [hv, ← List.length_append]
      exact zs0 (cs := cx ++ cy) hheap (by rw [List.length_append]; exact how2) (by rw [List.length_append]; exact ht) (by rw [List.length_append]; exact hrep) (by rw [List.length_append]; exact hn)
  split at h
  · rename_i hbs
    rw [hbs] at hb
    obtain ⟨ys, h, hys⟩ := z15 h
    cases hd : decide (List.length ys * E.bytes e ≤ 140737488355328) with
    | false => rw [hd] at h; cases h
    | true =>
      rw [hd] at h
      cases h
      obtain ⟨cs, rys, ev⟩ := hys X _ _ hx
      have hbv : a.eval b = .slice none 0 0 := hb
      have hone : cs = [a.eval x] := by
        obtain ⟨A, c, hcs, _⟩ := rys
        rw [ev, hcs]; rfl
      have := key [] ys [] (.r 0 []) (fun hf => hf) (.inl ⟨hbv, rfl⟩) (by rw [hbv]; exact ⟨none, 0, rfl, Nat.le_refl _, fun j x hj => by simp at hj⟩) (by rw [← hone]; exact rys) (by simpa using of_decide_eq_true hd)
      simpa using this
  · rename_i t' xs0 own0 hbs
    rw [hbs] at hb
    split at h
    case isTrue => cases h
    rename_i hhas
    have hhas : zmb own0 [] = true := by cases hb' : zmb own0 [] <;> simp_all
    obtain ⟨heq, h⟩ := z27x h
    have := Ty.eqb_eq heq
    subst this
    obtain ⟨ys, h, hys⟩ := z15 h
    cases hd : decide ((List.length (Ty.cast heq xs0) + List.length ys) * E.bytes e ≤ 140737488355328) with
    | false => rw [hd] at h; cases h
    | true =>
      rw [hd] at h
      cases h
      obtain ⟨cs, rys, ev⟩ := hys X _ _ hx
      have hmem := z1gg hhas
      obtain ⟨i, rfl⟩ := z1ye hbs (fun e => by rw [e] at hmem; cases hmem)
      obtain ⟨cs1, r1, ev1, hO⟩ := hb
      have hone : cs = [a.eval x] := by
        obtain ⟨A, c, hcs, _⟩ := rys
        rw [ev, hcs]; rfl
      have hone1 : cs1 = [a.eval (.tmp i)] := by
        obtain ⟨A, c, hcs, _⟩ := r1
        rw [ev1, hcs]; rfl
      obtain ⟨e', t'', xs', v', _, g1, g2, g3⟩ := hO [] hmem
      simp only [El.get, Option.some.injEq, Sigma.mk.injEq, Ty.sl.injEq] at g1
      obtain ⟨⟨rfl, rfl⟩, g1⟩ := g1
      cases g1
      have hv' : v' = a.eval (.tmp i) := by
        rw [hone1] at g2
        simpa [Ty.off] using g2.symm
      rw [hv'] at g3
      exact key xs0 ys [(i, 0)] (.c i 0 []) Flag.close g3 (by rw [← hone1]; exact r1) (by rw [← hone]; exact rys) (of_decide_eq_true hd)
  · cases h
end Go.Ref
namespace Go.Ref
open Go
variable {P : Program} {E : Env} {X : Cfg} {s : State} {a : Act} {o : Oper} {u : Out}
def Cfg.obj (X : Cfg) (r : Nat) (b : Obj) : Cfg := { X with w := { X.w with heap := X.w.heap.setIfInBounds r b } }
theorem z94 {r g : Nat} {b : Obj} (h : g ≠ r) : (X.obj r b).w.heap[g]? = X.w.heap[g]? := by
  simp [Cfg.obj, Ne.symm h]
theorem z17u {r : Nat} {b b' : Obj} (h : X.w.heap[r]? = some b') : (X.obj r b).w.heap[r]? = some b := (MapKept.heap_set h).1
theorem z5v {r id : Nat} {b : Obj} (h : X.ow r = .box id) {ad : Addr} {v : Value} (hs : X.sees ad v) : (X.obj r b).sees ad v := by
  have hne : ad.block ≠ r := fun e => by
    have := hs.2.2
    rw [e, h] at this
    exact this
  refine ⟨hs.1, ?_, hs.2.2⟩
  have := hs.2.1
  simp only [World.cell?] at this ⊢
  rw [z94 hne]
  exact this
theorem z1f6 {r id : Nat} {b : Obj} (h : X.ow r = .box id) : Ext X (X.obj r b) where
  sees := fun _ _ => z5v h
  size := by simp [Cfg.obj]
  os := rfl
  tape := rfl
  output := rfl
  β0 := rfl
  still := fun g _ hst => by
    have hne : g ≠ r := fun e => by rw [e, h] at hst; exact hst
    exact ⟨rfl, z94 hne⟩
theorem OwnAt.obj {r id : Nat} {b : Obj} (h : X.ow r = .box id) {pl : Place} {e : TypeId} {k n : Nat} {v : Value} (ho : OwnAt X pl e k n v) : OwnAt (X.obj r b) pl e k n v := by
  rcases ho with ho | ⟨g, cap, cur, h1, h2, h3, h4, h5, h6⟩
  · exact .inl ho
  · have hne : g ≠ r := fun e => by rw [e, h] at h6; cases h6
    exact .inr ⟨g, cap, cur, h1, (z94 hne).trans h2, h3, h4, h5, h6⟩
theorem OwnP.obj {r id : Nat} {b : Obj} (h : X.ow r = .box id) {pl : List Nat → Place} {t : Ty} {x : El t} {c : List Value} {own : List (List Nat)} (ho : OwnP X pl t x c own) : OwnP (X.obj r b) pl t x c own := fun p hp => by
  obtain ⟨e, t', xs, v, g0, g1, g2, g3⟩ := ho p hp
  exact ⟨e, t', xs, v, g0, g1, g2, g3.obj h⟩
theorem RepV.obj {r id : Nat} {b : Obj} (h : X.ow r = .box id) {pl : List Nat → Place} {sv : SV} {v : Value} (hr : RepV X pl sv v) : RepV (X.obj r b) pl sv v := by
  cases sv with
  | dat t x own =>
    obtain ⟨c, h1, h2, h3⟩ := hr
    exact ⟨c, h1.sees_mono (fun _ _ => z5v h), h2, h3.obj h⟩
  | view t x =>
    obtain ⟨ad, c, h1, h2, h3, h4⟩ := hr
    exact ⟨ad, c, h1, h2, h3.sees_mono (fun _ _ => z5v h), fun i u hi => z5v h (h4 i u hi)⟩
  | cap f t x u y => exact z3i (fun _ _ => z5v h) hr
  | _ => exact hr
theorem Rel.obj {r id : Nat} {B B' : Box} {b : Obj} (hr : Rel X s a) (hb : s.bs[id]? = some (some B)) (hβ : X.β id = some r) (h : X.ow r = .box id) (hB : BoxAt (X.obj r b) id r B') : Rel (X.obj r b) (s.putBox (some (id, B'))) a where
  size := hr.size
  bsz := by simpa [State.putBox] using hr.bsz
  slots := fun i l v hl hv => (hr.slots i l v hl hv).impF fun j sv u hm hsv => hsv.obj h
  boxes := fun id' B2 hB2 => by
    have hlt : id < s.bs.length := (List.getElem?_eq_some_iff.1 hb).1
    simp only [State.putBox, List.getElem?_set] at hB2
    by_cases e : id = id'
    · subst e
      rw [if_pos rfl, if_pos hlt] at hB2
      cases hB2; exact ⟨r, hβ, hB⟩
    · rw [if_neg e] at hB2
      obtain ⟨r', h1, h4, h2⟩ := hr.boxes id' B2 hB2
      have hne : r' ≠ r := fun e2 => by rw [e2, h] at h4; cases h4; exact e rfl
      exact ⟨r', h1, h4, h2.move (fun _ _ => z5v h) (z94 hne) (fun cs h5 => h5.obj h) fun _ g o ho hw => ⟨(z94 (fun e3 => by rw [e3, h] at hw; cases hw)).trans ho, hw⟩⟩
  live := fun i l id' t p hi hm => by
    have hlt : id < s.bs.length := (List.getElem?_eq_some_iff.1 hb).1
    obtain ⟨B2, hB2⟩ := hr.live i l id' t p hi hm
    simp only [State.putBox, List.getElem?_set]
    by_cases e : id = id'
    · subst e; exact ⟨B', by rw [if_pos rfl, if_pos hlt]⟩
    · rw [if_neg e]; exact ⟨B2, hB2⟩
  defers := hr.defers
def Cfg.newO (X : Cfg) (b : Obj) (w : Ow) (β : Nat → Option Nat) : Cfg := { w := X.w.alloc b, ow := fun g => if g = X.w.heap.size then w else X.ow g, β }
theorem z133 (X : Cfg) (s : State) (b : Obj) (w : Ow) (β : Nat → Option Nat) (hβ0 : β 0 = X.β 0) (hβ : ∀ (id : Nat) B, s.bs[id]? = some (some B) → β id = X.β id) : Keep s X (X.newO b w β) where
  size := by simp [Cfg.newO]
  os := rfl
  tape := rfl
  output := rfl
  blk := fun g hg => ⟨by simp only [Cfg.newO]; rw [if_neg (by omega)], RowKit.Below.heap_alloc _ _ _ hg⟩
  β0 := hβ0
  β := hβ
theorem ztn (hr : Rel X s a) {t p : Ty} {x : El t} {b : Obj} {v : Value} (hrun : (execOp a.eval o).run P X.w = .ok (.value v) (X.w.alloc b))
    (hheld : ∀ Y : Cfg, (∀ ad v, X.sees ad v → Y.sees ad v) → Y.w.heap[X.w.heap.size]? = some b → ∀ pl, Held Y X.w.heap.size pl t x []) (hptr : ptrV p [] X.w.heap.size v) (h : newV s o.dst t x p some = some u) : Done P X s a o u := by
  unfold newV at h
  split at h
  case h_2 => cases h
  rename_i d hd
  split at h
  case h_2 => cases h
  rename_i hb
  cases h
  let β : Nat → Option Nat := fun id => if id = d + 1 then some X.w.heap.size else X.β id
  have hlt : d + 1 < s.bs.length := (List.getElem?_eq_some_iff.1 hb).1
  have hk : Keep s X (X.newO b (.box (d + 1)) β) := z133 X _ _ _ _ (by show (if _ then _ else _) = _; rw [if_neg (by omega)]) (fun id B hB => by
    show (if id = d + 1 then _ else _) = _
    rw [if_neg (fun e => by rw [e, hb] at hB; cases hB)])
  have hbox : BoxAt (X.newO b (.box (d + 1)) β) (d + 1) X.w.heap.size ⟨t, x, []⟩ := ⟨by simp [Cfg.newO], hheld _ (fun _ _ => hk.sees) (heap_alloc_new X.w _) _⟩
  have hβd : β (d + 1) = some X.w.heap.size := by show (if d + 1 = d + 1 then _ else _) = _; rw [if_pos rfl]
  have hr2 := (hr.keep hk).newBox hlt hb hβd hbox
  refine ⟨X.newO b (.box (d + 1)) β, v, .inl hrun, hk.ext, ?_⟩
  rw [hd]
  refine hr2.put (fun d' e => ?_) (fun id t' q hm => ?_)
  · cases e
    exact ⟨X.w.heap.size, hβd, hptr⟩
  · have : id = d + 1 := by have := hm; simp at this; exact this.1
    subst this
    exact ⟨⟨t, x, []⟩, by simp [State.putBox, List.getElem?_set, hlt]⟩
def keyV : (t : Ty) → El t → Value
  | .bool, b => .bool b
  | .int k, n => .int k n
  | .str, x => .string x
  | _, _ => Go.undef
theorem zy0 {t : Ty} (hk : t.isKey = true) {x : El t} {v : Value} (h : RepC X t x v) : v = keyV t x := by
  obtain ⟨cs, h1, h2⟩ := h
  cases t <;> simp [Ty.isKey] at hk
  · rw [h2, z3h h1]; rfl
  · rw [h2, z1p h1]; rfl
  · rw [h2, z1y h1]; rfl
theorem z1ki {T : TypeId} {t : Ty} (hE : EnvOk P E) (hT : E.ty T = some t) (hk : t.isKey = true) (x : El t) : ∃ d, P.underlying T = some d ∧ MapKept.IsKey d (keyV t x) ∧ ∀ y, Instr.sameNow d (keyV t x) (keyV t y) = some (eqK t x y) := by
  have hu := (hE.ty T t hT).und
  cases t <;> simp [Ty.isKey] at hk
  · have hu : P.underlying T = some .bool := hu
    exact ⟨_, hu, trivial, fun y => by cases x <;> cases y <;> rfl⟩
  · have hu : P.underlying T = some (.int _) := hu
    refine ⟨_, hu, by simp [MapKept.IsKey, keyV], fun y => ?_⟩
    simp only [Instr.sameNow, keyV, if_true, eqK]
    congr 1
  · have hu : P.underlying T = some .string := hu
    refine ⟨_, hu, trivial, fun y => ?_⟩
    simp only [Instr.sameNow, keyV, eqK]
    congr 1
    by_cases e : x = y
    · rw [decide_eq_true e]; exact (MapKept.bytes_beq _ _).2 e
    · rw [decide_eq_false e]
      cases hb : (x == y) with
      | false => rfl
      | true => exact absurd ((MapKept.bytes_beq _ _).1 hb) e
theorem zxr {kt vt : Ty} {d : TypeDesc} {k : El kt} (hk : kt.isKey = true) (hs : ∀ y, Instr.sameNow d (keyV kt k) (keyV kt y) = some (eqK kt k y)) : ∀ (es : List MapEntry) (xs : List (El kt × El vt)) (i : Nat), es.length = xs.length →
    (∀ (i : Nat) q e, xs[i]? = some q → es[i]? = some e → RepC X kt q.1 e.key ∧ RepC X vt q.2 e.val) →
    (mhas (eqK kt) xs k = false ∧ mget (eqK kt) (El.dflt vt) xs k = El.dflt vt ∧ Instr.findNow d (keyV kt k) es i = some none) ∨ (mhas (eqK kt) xs k = true ∧ ∃ j v, Instr.findNow d (keyV kt k) es i = some (some (j, v)) ∧ RepC X vt (mget (eqK kt) (El.dflt vt) xs k) v)
  | [], [], i, _, _ => .inl ⟨rfl, rfl, rfl⟩
  | e :: es, q :: xs, i, hl, hp => by
    obtain ⟨h1, h2⟩ := hp 0 q e rfl rfl
    have hke := zy0 hk h1
    have hsame := hs q.1
    rw [← hke] at hsame
    simp only [Instr.findNow, hsame, mhas, mget]
    cases heq : eqK kt k q.1 with
    | true => exact .inr ⟨rfl, i, e.val, rfl, h2⟩
    | false => exact zxr hk hs es xs (i + 1) (by simpa using hl) (fun i q e hq he => hp (i + 1) q e (by simpa using hq) (by simpa using he))
  | [], _ :: _, _, hl, _ => by simp at hl
  | _ :: _, [], _, hl, _ => by simp at hl
theorem z10i {T : TypeId} {kt vt : Ty} (hE : EnvOk P E) (h : mapTy E T = some (kt, vt)) : ∃ k e, P.underlying T = some (.map k e) ∧ E.ty k = some kt ∧ E.ty e = some vt ∧ kt.isKey = true := by
  unfold mapTy at h
  split at h
  case h_2 => cases h
  rename_i k e hm
  split at h
  case h_2 => cases h
  rename_i kt' vt' h1 h2
  split at h
  case isFalse => cases h
  rename_i hk
  cases h
  exact ⟨k, e, hE.mp T k e hm, h1, h2, hk⟩
theorem zx8 {m : Operand} {kt vt : Ty} {R : Type} {K : Nat → List (El kt × El vt) → Option R} {z : R} (hr : Rel X s a) (h : z5s s (s.op1 m) kt vt K = some z) :
    ∃ id B r xs, K id xs = some z ∧ s.bs[id]? = some (some B) ∧ X.β id = some r ∧ X.ow r = .box id ∧ a.eval m = .map (some r) ∧ ∃ es clock, X.w.heap[r]? = some (.map es clock) ∧ es.size = xs.length ∧
      ∀ (i : Nat) (q : El kt × El vt) (e : MapEntry), xs[i]? = some q → es[i]? = some e → RepC X kt q.1 e.key ∧ RepC X vt q.2 e.val := by
  have hx := hr.op1 m
  unfold z5s at h
  split at h
  case h_2 => cases h
  rename_i id kt' vt' hm
  rw [hm] at hx
  obtain ⟨r, hβ, hv⟩ := hx
  split at h
  case isFalse => cases h
  split at h
  case h_2 => cases h
  rename_i B hB
  split at h
  case isFalse => cases h
  rename_i hbt
  have hb := z2h hB
  obtain ⟨r', h1, h2, h3⟩ := hr.boxes id B hb
  rw [hβ] at h1
  cases h1
  refine ⟨id, B, r, _, h, hb, hβ, h2, hv, ?_⟩
  obtain ⟨bt, bx, bo⟩ := B
  have e := Ty.eqb_eq hbt
  simp only at e
  subst e
  exact h3
theorem z19j (hE : EnvOk P E) (hr : Rel X s a) {ops : List Oper} {T : TypeId} {rs : Option Operand} (ho : o.op = .makeMap T rs) {C : FuncId → Fun' Out} (h : act E C ops o s some = some u) : Done P X s a o u := by
  unfold act at h
  cases rs with
  | some r => simp only [ho] at h; cases h
  | none =>
    simp only [ho] at h
    split at h
    case h_2 => cases h
    rename_i kt vt hm
    refine ztn hr (t := .spc .mp kt vt) (p := .spc .mp kt vt) (x := ([] : List (El kt × El vt))) (b := .map #[] 0) (v := .map (some X.w.heap.size)) ?_ (fun Y _ hY pl => ⟨#[], 0, hY, rfl, fun i q e hq => by simp at hq⟩) rfl h
    simp [execOp, ho, Instr.makeMap]
theorem z1e8 (hE : EnvOk P E) (hr : Rel X s a) {ops : List Oper} {T : TypeId} {x i : Operand} {ok : Bool} (ho : o.op = .lookup T x i ok) {C : FuncId → Fun' Out} (h : act E C ops o s some = some u) : Done P X s a o u := by
  unfold act at h
  cases ok with
  | true => simp only [ho] at h; cases h
  | false =>
    simp only [ho] at h
    unfold lookV at h
    split at h
    case h_2 => cases h
    rename_i kt vt hm
    obtain ⟨k, e, hu, hk, he, hkey⟩ := z10i hE hm
    obtain ⟨id, B, r, xs, h, hb, hβ, how, hv, es, clock, hheap, hsz, hel⟩ := zx8 hr h
    obtain ⟨key, h, hkv⟩ := z15 h
    cases h
    obtain ⟨ck, rk, evk⟩ := hkv X _ _ (hr.op1 i)
    have evk := zy0 (X := X) hkey ⟨ck, rk, evk⟩
    obtain ⟨d, hd, hik, hsame⟩ := z1ki hE hk hkey key
    have hck := MapKept.run_checkKey (P := P) (w := X.w) hd hik es.isEmpty 9999
    rcases zxr (X := X) hkey hsame es.toList xs 0 (by simpa using hsz) (fun i q e hq he => hel i q e hq (by simpa using he)) with ⟨g1, g2, g3⟩ | ⟨g1, j, v, g3, g4⟩
    · have hf := MapKept.run_findKey (P := P) (w := X.w) hd g3
      rw [g2]
      have hz := zk0 (P := P) hE he X.w
      refine Done.plain hr (v := mkv vt (zx vt)) ?_ (z87 (z2g X vt)) (fun _ _ _ e' => by cases e')
      simp only [execOp, ho, Sem.run_bind, Instr.lookup, run_underlying hu, Result.andThen_ok, hv, evk, MapKept.run_getObj_map hheap, Sem.run_pure, hck, hf, hz, Bool.false_eq_true, if_false]
    · have hf := MapKept.run_findKey (P := P) (w := X.w) hd g3
      obtain ⟨cv, rv, ev⟩ := g4
      refine Done.plain hr (v := v) ?_ ⟨cv, rv, ev, z1r⟩ (fun _ _ _ e' => by cases e')
      simp only [execOp, ho, Sem.run_bind, Instr.lookup, run_underlying hu, Result.andThen_ok, hv, evk, MapKept.run_getObj_map hheap, Sem.run_pure, hck, hf, Bool.false_eq_true, if_false]
theorem z1d5 (hE : EnvOk P E) (hr : Rel X s a) {T : TypeId} {m k x : Operand} (ho : (execOp a.eval o).run P X.w = ((Instr.mapUpdate T (a.eval m) (a.eval k) (a.eval x)).run P X.w).andThen fun _ w => .ok .skip w) (h : updV E T s (s.op1 m) (s.op1 k) (s.op1 x) some = some u) : Done P X s a o u := by
  unfold updV at h
  split at h
  case h_2 => cases h
  rename_i kt vt hm
  obtain ⟨kT, eT, hu, hk, he, hkey⟩ := z10i hE hm
  obtain ⟨id, B, r, xs, h, hb, hβ, how, hv, es, clock, hheap, hsz, hel⟩ := zx8 hr h
  obtain ⟨key, h, hkv⟩ := z15 h
  obtain ⟨y, h, hyv⟩ := z15 h
  obtain ⟨ck, rk, evk0⟩ := hkv X _ _ (hr.op1 k)
  obtain ⟨cy, ry, evy⟩ := hyv X _ _ (hr.op1 x)
  have evk := zy0 (X := X) hkey ⟨ck, rk, evk0⟩
  obtain ⟨d, hd, hik, hsame⟩ := z1ki hE hk hkey key
  have hck := MapKept.run_checkKey (P := P) (w := X.w) hd hik false 9999
  rcases zxr (X := X) hkey hsame es.toList xs 0 (by simpa using hsz) (fun i q e hq he => hel i q e hq (by simpa using he)) with ⟨g1, g2, g3⟩ | ⟨g1, j, v, g3, g4⟩
  · rw [g1] at h
    cases h
    have hf := MapKept.run_findKey (P := P) (w := X.w) hd g3
    let new : Obj := .map (es.push { key := a.eval k, val := a.eval x, born := clock }) (clock + 1)
    have hrun : (execOp a.eval o).run P X.w = .ok .skip (X.obj r new).w := by
      rw [ho]
      simp only [Instr.mapUpdate, Sem.run_bind, run_underlying hu, Result.andThen_ok, hv, evk, MapKept.run_getObj_map hheap, hck, hf, MapKept.run_setObj_map _ hheap]
      simp only [new, evk]
      rfl
    have hbox : BoxAt (X.obj r new) id r ⟨.spc .mp kt vt, (xs ++ [(key, y)] : List (El kt × El vt)), []⟩ := by
      refine ⟨how, es.push { key := a.eval k, val := a.eval x, born := clock }, clock + 1, z17u hheap, by simp [hsz], fun i q e hq he => ?_⟩
      have hs : ∀ ad v, X.sees ad v → (X.obj r new).sees ad v := fun _ _ => z5v how
      have hq : (xs ++ [(key, y)])[i]? = some q := hq
      rw [List.getElem?_append] at hq
      rw [Array.getElem?_push] at he
      split at hq
      · rename_i hlt
        rw [if_neg (by omega)] at he
        obtain ⟨j1, j2⟩ := hel i q e hq he
        exact ⟨j1.mono hs, j2.mono hs⟩
      · rename_i hlt
        have hi : i - xs.length = 0 := by
          have := (List.getElem?_eq_some_iff.1 hq).1
          simp at this
          omega
        rw [hi] at hq
        cases hq
        rw [if_pos (by omega)] at he
        cases he
        exact ⟨RepC.mono hs ⟨ck, rk, evk0⟩, RepC.mono hs ⟨cy, ry, evy⟩⟩
    exact ⟨X.obj r new, Go.undef, .inr ⟨hrun, rfl⟩, z1f6 how, (hr.obj hb hβ how hbox).skip o.dst⟩
  · rw [g1] at h
    cases h
theorem zjp (hE : EnvOk P E) (hr : Rel X s a) {ops : List Oper} {T : TypeId} {m k x : Operand} (ho : o.op = .mapUpdate T m k x ∨ o.op = .insert T m k x) {C : FuncId → Fun' Out} (h : act E C ops o s some = some u) : Done P X s a o u := by
  unfold act at h
  rcases ho with ho | ho
  · simp only [ho] at h
    exact z1d5 hE hr (by simp [execOp, ho]) h
  · simp only [ho] at h
    exact z1d5 hE hr (by simp [execOp, ho]) h
theorem z1gk (hE : EnvOk P E) (hr : Rel X s a) {ops : List Oper} {T : TypeId} {x : Operand} (ho : o.op = .range T x) {C : FuncId → Fun' Out} (h : act E C ops o s some = some u) : Done P X s a o u := by
  unfold act at h
  simp only [ho] at h
  split at h
  case h_2 => cases h
  rename_i hT
  obtain ⟨y, h, hy⟩ := z15 h
  obtain ⟨cs, ry, ev⟩ := hy X _ _ (hr.op1 x)
  rw [z1y ry] at ev
  have hu := (hE.ty T _ hT).und
  refine ztn hr (t := iterT) (p := iterT) (x := ((y, 0) : ByteArray × Nat)) (b := .stringIter y 0) (v := .pointer (some ⟨X.w.heap.size, 0, none⟩)) ?_ (fun Y _ hY pl => hY) ⟨rfl, trivial⟩ h
  simp [execOp, ho, Instr.range, run_underlying hu, ev]
theorem z1k9 (hr : Rel X s a) {ops : List Oper} {x : Operand} {str : Bool} (ho : o.op = .next x str) {C : FuncId → Fun' Out} (h : act E C ops o s some = some u) : Done P X s a o u := by
  unfold act at h
  cases str with
  | false => simp only [ho] at h; cases h
  | true =>
    simp only [ho] at h
    unfold nextV at h
    have hx := hr.op1 x
    split at h
    case h_2 => cases h
    rename_i id hm
    rw [hm] at hx
    obtain ⟨r, hβ, hv, _⟩ := hx
    split at h
    case h_2 => cases h
    rename_i B hB
    split at h
    case isFalse => cases h
    rename_i hbt
    have hb := z2h hB
    obtain ⟨r', h1, how, h3⟩ := hr.boxes id B hb
    rw [hβ] at h1
    cases h1
    have hheap : X.w.heap[r]? = some (.stringIter (Ty.cast hbt B.x : ByteArray × Nat).1 (Ty.cast hbt B.x : ByteArray × Nat).2) := by
      obtain ⟨bt, bx, bo⟩ := B
      have e := Ty.eqb_eq hbt
      simp only at e
      subst e
      exact h3
    generalize (Ty.cast hbt B.x : ByteArray × Nat) = q at *
    obtain ⟨st, pos⟩ := q
    simp only at h hheap
    have hv : a.eval x = .pointer (some ⟨r, 0, none⟩) := by simpa [Ty.off] using hv
    have hget : (getObj r).run P X.w = .ok (.stringIter st pos) X.w := by simp [getObj, Sem.run, hheap]
    cases hlt : decide (pos < st.size) with
    | false =>
      rw [hlt] at h
      cases h
      have hlt := of_decide_eq_false hlt
      refine Done.plain hr (sv := .over) (v := .tuple #[.bool false]) ?_ rfl (fun _ _ _ e' => by cases e')
      simp only [execOp, ho, Sem.run_bind, Instr.next, hv, hget, Result.andThen_ok, if_neg hlt, Sem.run_pure]
    | true =>
      rw [hlt] at h
      cases h
      have hlt := of_decide_eq_true hlt
      let new : Obj := .stringIter st (pos + (Utf8.decode st pos).2)
      have hset : (setObj r new).run P X.w = .ok () (X.obj r new).w := by simp [setObj, Sem.run, hheap, Cfg.obj]
      have hbox : BoxAt (X.obj r new) id r ⟨iterT, ((st, pos + (Utf8.decode st pos).2) : ByteArray × Nat), []⟩ := ⟨how, z17u hheap⟩
      have hr2 := hr.obj hb hβ how hbox
      refine ⟨X.obj r new, .tuple #[.bool true, .int .i64 pos, .int .i32 (Utf8.decode st pos).1], .inl ?_, z1f6 how, ?_⟩
      · simp only [execOp, ho, Sem.run_bind, Instr.next, hv, hget, Result.andThen_ok, if_pos hlt, Sem.run_pure]
        simp only [new] at hset
        rw [hset]
        rfl
      · refine hr2.put (fun d' e => ⟨_, rfl, rfl, fun j sv v hj hv => ?_⟩) (fun id t' q hm => by simp at hm)
        match j with
        | 0 => cases hj; cases hv; exact z1f
        | 1 => cases hj; cases hv; exact z16
        | 2 => cases hj; cases hv; exact z16
        | j + 3 => simp at hj
theorem z1uu {t : Ty} {k : Nat} (hk : (zx t).length = k) (n : Nat) : ((Array.range (n * k)).map fun i => (zx t).toArray[i % (zx t).toArray.size]!).size = n * k ∧
    ∀ j, j < n → ((((Array.range (n * k)).map fun i => (zx t).toArray[i % (zx t).toArray.size]!).toList.drop (j * k)).take k) = zx t := by
  refine ⟨by simp, fun j hj => ?_⟩
  apply List.ext_getElem?
  intro i
  rw [List.getElem?_take]
  split
  · rename_i hi
    have hlt : j * k + i < n * k := by
      have : (j + 1) * k ≤ n * k := Nat.mul_le_mul_right _ hj
      rw [Nat.add_mul, Nat.one_mul] at this
      omega
    have hmod : (j * k + i) % k = i := by rw [Nat.mul_comm, Nat.mul_add_mod, Nat.mod_eq_of_lt hi]
    rw [List.getElem?_drop, Array.getElem?_toList, Array.getElem?_map, Array.getElem?_range, if_pos hlt]
    simp only [Option.map_some, List.size_toArray, hk, hmod]
    rw [List.getElem?_eq_getElem (by omega)]
    simp [getElem!_def, List.getElem?_eq_getElem (show i < (zx t).length by omega)]
  · rename_i hi
    rw [List.getElem?_eq_none (by omega)]
theorem z1b9 (hE : EnvOk P E) {T e : TypeId} {t : Ty} (hT : E.ty T = some (.sl e t)) (hk : t.cells ≠ 0) (hby : E.bytes e ≠ 0) {n m : Int} (hn : 0 ≤ n) (hnm : n ≤ m) (hb : m * E.bytes e ≤ 140737488355328) (w : World) :
    m.toNat ≤ maxLen ∧ ∃ cur, cur.size = m.toNat * t.cells ∧ (∀ j, j < m.toNat → (cur.toList.drop (j * t.cells)).take t.cells = zx t) ∧
      (Instr.makeSlice T (.int .i64 n) (.int .i64 m)).run P w = .ok (.slice (some ⟨w.heap.size, 0, none⟩) n.toNat m.toNat) (w.alloc (.cells cur e)) := by
  obtain ⟨hu, he⟩ := (hE.ty T _ hT).und
  obtain ⟨i, hi, hsize, hbytes, hz⟩ := (hE.ty e t he).info
  have hle : m ≤ m * E.bytes e := by
    have h1 : (1 : Int) ≤ E.bytes e := by omega
    have := Int.mul_le_mul_of_nonneg_left h1 (show 0 ≤ m by omega)
    simpa using this
  have hml : m.toNat ≤ maxLen := by simp only [maxLen]; omega
  have hcells : (mkv t (zx t)).cells = (zx t).toArray := z2l (X := ⟨w, fun _ => .all, fun _ => none⟩) (z2g _ t)
  obtain ⟨z1, z2⟩ := z1uu (z24 t) m.toNat
  refine ⟨hml, (Array.range (m.toNat * t.cells)).map (fun i => (zx t).toArray[i % (zx t).toArray.size]!), z1, z2, ?_⟩
  have hw1 : IntKind.i64.wrap n = n := by simp [IntKind.wrap, IntKind.signed, IntKind.bits]; omega
  have hw2 : IntKind.i64.wrap m = m := by simp [IntKind.wrap, IntKind.signed, IntKind.bits]; omega
  have hmul : (i.bytes : Int) * m ≤ 2 ^ 48 := by rw [hbytes, Int.mul_comm]; omega
  have c1 : ¬ m < 0 := by omega
  have c2 : ¬ (281474976710656 : Int) < (i.bytes : Int) * m := by omega
  have c3 : ¬ n < 0 := by omega
  have c4 : ¬ m < n := by omega
  have hai : ∀ (n : Int) (w : World), (asInt (.int .i64 n)).run P w = .ok n w := fun n w => by simp [asInt, asIntOf]
  have hti : ∀ w : World, (typeInfo e).run P w = .ok i w := fun w => by simp [typeInfo, hi]
  have hso : ∀ w : World, (sizeOf e).run P w = .ok t.cells w := fun w => z19 hE he w
  have hzv : ∀ w : World, (zeroValue e).run P w = .ok (mkv t (zx t)) w := fun w => zk0 hE he w
  simp only [Instr.makeSlice, Sem.run_bind, run_underlying hu, Result.andThen_ok, hai, hti, hw1, hw2]
  by_cases h0 : m.toNat * t.cells = 0
  · simp [c1, c2, c3, c4, hso, h0, newRow]
    rw [show Array.range 0 = #[] from rfl]
    simp
  · simp [c1, c2, c3, c4, hso, h0, hzv, hcells, newRow]
theorem z12j (hE : EnvOk P E) (hr : Rel X s a) {ops : List Oper} {T : TypeId} {l c : Operand} (ho : o.op = .makeSlice T l c) {C : FuncId → Fun' Out} (h : act E C ops o s some = some u) : Done P X s a o u := by
  unfold act at h
  simp only [ho] at h
  unfold makeV at h
  split at h
  case h_2 => cases h
  rename_i e t hT
  split at h
  · cases h
  rename_i hne
  have hby : E.bytes e ≠ 0 := fun e0 => hne (by rw [e0]; rfl)
  have hk : t.cells ≠ 0 := fun e0 => hne (by rw [e0]; simp)
  obtain ⟨n, h, hn⟩ := z15 h
  obtain ⟨m, h, hm⟩ := z15 h
  obtain ⟨_, rn, en⟩ := hn X _ _ (hr.op1 l)
  rw [z1p rn] at en
  obtain ⟨_, rm, em⟩ := hm X _ _ (hr.op1 c)
  rw [z1p rm] at em
  cases hc : z1f4 l with
  | true =>
    rw [hc] at h
    simp only [cond_true] at h
    cases d1 : decide (n = 0) <;> rw [d1] at h <;> simp only [cond_true, cond_false] at h
    · cases h
    cases d2 : decide (0 ≤ m) <;> rw [d2] at h <;> simp only [cond_true, cond_false] at h
    · cases h
    cases d3 : decide (m * E.bytes e ≤ 140737488355328) <;> rw [d3] at h <;> simp only [cond_true, cond_false] at h
    · cases h
    cases h
    have d1 := of_decide_eq_true d1
    have d2 := of_decide_eq_true d2
    have d3 := of_decide_eq_true d3
    subst d1
    obtain ⟨hml, cur, g1, g2, hrun⟩ := z1b9 (P := P) hE hT hk hby (n := 0) (m := m) (by omega) d2 d3 X.w
    have hkp : Keep s X (X.newO (.cells cur e) (.row (.c (o.dst.getD 0) 0 []) 0) X.β) := z133 X _ _ _ _ rfl (fun _ _ _ => rfl)
    refine ⟨X.newO (.cells cur e) (.row (.c (o.dst.getD 0) 0 []) 0) X.β, .slice (some ⟨X.w.heap.size, 0, none⟩) 0 m.toNat, .inl ?_, hkp.ext, (hr.keep hkp).fin ⟨[.slice (some ⟨X.w.heap.size, 0, none⟩) 0 m.toNat], ⟨_, _, rfl, Nat.zero_le _, fun j x hj => by simp at hj⟩, rfl, fun p hp => ?_⟩ (fun id t p hm => by simp at hm)⟩
    · simp only [execOp, ho, Sem.run_bind, en, em, hrun, Result.andThen_ok, Sem.run_pure]
      rfl
    · have hp : p = [] := by simpa using hp
      subst hp
      refine ⟨e, t, [], _, by simp [Ty.inb], rfl, rfl, .inr ⟨X.w.heap.size, m.toNat, cur, rfl, heap_alloc_new X.w _, Nat.zero_le _, hml, g1, ?_⟩⟩
      simp [Cfg.newO]
  | false =>
    rw [hc] at h
    simp only [cond_false] at h
    cases d1 : decide (n = m) <;> rw [d1] at h <;> simp only [cond_true, cond_false] at h
    · cases h
    cases d2 : decide (0 ≤ n) <;> rw [d2] at h <;> simp only [cond_true, cond_false] at h
    · cases h
    cases d3 : decide (n * E.bytes e ≤ 140737488355328) <;> rw [d3] at h <;> simp only [cond_true, cond_false] at h
    · cases h
    have d1 := of_decide_eq_true d1
    have d2 := of_decide_eq_true d2
    have d3 := of_decide_eq_true d3
    have d1 : m = n := d1.symm
    subst d1
    obtain ⟨hml, cur, g1, g2, hrun⟩ := z1b9 (P := P) hE hT hk hby (n := m) (m := m) d2 (Int.le_refl _) d3 X.w
    refine ztn hr (t := .spc .row t .unit) (p := .spc (.hdr m.toNat) t .unit) (x := (List.replicate m.toNat (El.dflt t) : List (El t))) (b := .cells cur e) (v := .slice (some ⟨X.w.heap.size, 0, none⟩) m.toNat m.toNat) ?_ (fun Y _ hY pl => ⟨cur, e, hY, ?_, fun j x hj => ?_⟩) ⟨_, rfl, Nat.le_refl _⟩ h
    · simp only [execOp, ho, Sem.run_bind, en, em, hrun, Result.andThen_ok, Sem.run_pure]
    · rw [g1]; show _ = List.length (List.replicate _ _) * _; rw [List.length_replicate]
    · have hj : (List.replicate m.toNat (El.dflt t))[j]? = some x := hj
      rw [List.getElem?_replicate] at hj
      split at hj
      · rename_i hlt
        cases hj
        rw [g2 j hlt]
        exact z2g Y t
      · cases hj
end Go.Ref
namespace Go.Ref
open Go
variable {P : Program} {E : Env} {X : Cfg} {s : State} {a : Act} {o : Oper} {u : Out}
theorem z1tq (hE : EnvOk P E) (hr : Rel X s a) {ops : List Oper} {T : TypeId} {x : Operand} {lo hi : Option Operand} (ho : o.op = .slice T x lo hi none) {C : FuncId → Fun' Out} (h : act E C ops o s some = some u) : Done P X s a o u := by
  unfold act at h
  simp only [ho] at h
  split at h
  · rename_i id n ta tb hxe
    split at h
    case h_2 => cases h
    rename_i e t hT
    split at h
    case isFalse => cases h
    rename_i heq
    have := Ty.eqb_eq heq
    subst this
    unfold cutH at h
    split at h
    · cases h
    rename_i hhi
    have hi0 : hi = none := by
      cases hi with
      | none => rfl
      | some _ => cases hhi
    subst hi0
    obtain ⟨l, h, h1, hl⟩ := zdr h
    cases h
    have hx := hr.op1 x
    rw [hxe] at hx
    obtain ⟨r0, hβ, cap, hv, hcap⟩ := hx
    have hu := (hE.ty T _ hT).und
    have hbd := zjw (P := P) (isS := true) hr hl (hi := none) (m := n) (n := n) (c := cap) rfl h1 (Nat.le_refl _) hcap X.w
    rw [Option.map_none] at hbd
    refine Done.plain hr (v := .slice (if cap = l then some ⟨r0, 0, none⟩ else (some (⟨r0, 0, none⟩ : Addr)).map (·.add (l * ta.cells))) (n - l) (cap - l)) ?_ ⟨r0, hβ, ?_⟩ (fun _ _ _ e => by cases e; exact z65 hr hxe)
    · simp only [execOp, ho, Sem.run_bind, Instr.sliceAt, run_underlying hu.1, Result.andThen_ok, Instr.slice, hv, Option.map_none, hbd, Sem.run_pure, z19 hE hu.2]
    · show ∃ cap' off, _ = Value.slice (some ⟨r0, off, none⟩) (n - l) cap' ∧ _
      by_cases e' : cap = l
      · rw [if_pos e']
        exact ⟨_, _, rfl, by omega, h1, .inl ⟨by omega, rfl⟩⟩
      · rw [if_neg e']
        refine ⟨cap - l, l * ta.cells, ?_, by omega, h1, .inr rfl⟩
        rw [Option.map_some, z23, Nat.zero_add]
  · rename_i id n t hxe
    have hx := hr.op1 x
    rw [hxe] at hx
    obtain ⟨r0, hβ, hv⟩ := hx
    unfold cutA at h
    split at h
    case h_2 => cases h
    rename_i u' hT hlo hhi
    have lo0 : lo = none := by
      cases lo with
      | none => rfl
      | some _ => cases hlo
    have hi0 : hi = none := by
      cases hi with
      | none => rfl
      | some _ => cases hhi
    subst lo0 hi0
    split at h
    case isFalse => cases h
    rename_i heq
    have := Ty.eqb_eq heq
    subst this
    split at h
    case h_2 => cases h
    rename_i B hB
    split at h
    case isFalse => cases h
    rename_i hbt
    cases h
    have hb := z2h hB
    obtain ⟨r, h1, hBA⟩ := hr.boxes id B hb
    rw [hβ] at h1
    cases h1
    obtain ⟨bt, bx, bo⟩ := B
    have e := Ty.eqb_eq hbt
    simp only at e
    subst e
    obtain ⟨cs, T', hheap, hrep, how, _⟩ := hBA.cells rfl
    have hv : a.eval x = .pointer (some ⟨r0, 0, none⟩) := by rw [((z1n rfl).1 hv).1]; rfl
    obtain ⟨e, hu1, hu2, _⟩ := (hE.ty T _ hT).und
    have hlen : List.length (bx : List (El t)) = n := hrep.1
    have hbox : BoxAt X id r0 ⟨.spc .row t .unit, (bx : List (El t)), []⟩ := ⟨how, cs, T', hheap, by have := hrep.2.1; rw [hlen]; simpa using this, hrep.2.2⟩
    have hcast : (Ty.cast hbt bx : El (.arr n t)) = bx := rfl
    rw [hcast]
    refine ⟨X, .slice (some ⟨r0, 0, none⟩) n n, .inl ?_, Ext.refl X, (hr.setBox hb hβ hbox).fin ⟨r0, hβ, n, rfl, Nat.le_refl _⟩ (fun id' t' p' hm => ?_)⟩
    · simp only [execOp, ho, Sem.run_bind, Instr.sliceAt, run_underlying hu1, Result.andThen_ok, Option.map_none, hv, Instr.sureAddr, Sem.run_pure, z19 hE hu2]
      simp [Instr.sliceBounds]
      intro _
      rw [z23]
    · have hm' : SV.ptr id' t' p' = .ptr id (.spc (.hdr n) t .unit) [] := by simpa using hm
      cases hm'
      exact ⟨_, zju hb⟩
  · exact z1nk hE hr ho h
theorem z15u (hr : Rel X s a) {ops : List Oper} {fn : Fn} {fi ca : Array Operand} (ho : o.op = .makeFunc fn fi ca) {C : FuncId → Fun' Out} (h : act E C ops o s some = some u) : Done P X s a o u := by
  unfold act at h
  cases fn with
  | func f =>
    simp only [ho] at h
    split at h
    case h_3 => cases h
    case h_2 =>
      rename_i x y hfi hca
      have hfi : fi = #[] := by rw [← Array.toArray_toList (xs := fi), hfi]
      have hca : ca = #[x, y] := by rw [← Array.toArray_toList (xs := ca), hca]
      subst hfi hca
      unfold capV at h
      split at h
      case h_2 => cases h
      rename_i t x1 u' y1 hxe hye
      cases h
      have hx := hr.op1 x
      have hy := hr.op1 y
      rw [hxe] at hx
      rw [hye] at hy
      obtain ⟨ad, cs, h1, h2, h3, h4⟩ := hx
      obtain ⟨ad', cs', k1, k2, k3, k4⟩ := hy
      refine Done.plain hr (v := .func (.func f) #[] #[.pointer (some ad), .pointer (some ad')]) ?_ ⟨ad, ad', cs, cs', rfl, ⟨h2, h3, h4⟩, k2, k3, k4⟩ (fun _ _ _ e => by cases e)
      simp [execOp, ho, Instr.makeFunc, h1, k1]
    rename_i x hfi hca
    have hfi : fi = #[] := by rw [← Array.toArray_toList (xs := fi), hfi]
    have hca : ca = #[x] := by rw [← Array.toArray_toList (xs := ca), hca]
    subst hfi hca
    unfold closV at h
    split at h
    case h_2 => cases h
    rename_i id u' hxe
    split at h
    case isTrue => cases h
    rename_i hs
    cases h
    have hx := hr.op1 x
    rw [hxe] at hx
    obtain ⟨r0, hβ, hv⟩ := hx
    have hv := ((zcb (by simpa using hs)).1 hv).1
    refine Done.plain hr (v := .func (.func f) #[] #[.pointer (some ⟨r0, 0, none⟩)]) ?_ ⟨r0, hβ, rfl⟩ (fun _ _ _ e => by cases e; exact z65 hr hxe)
    have hv : a.eval x = .pointer (some ⟨r0, 0, none⟩) := by rw [hv]; simp [Ty.off]
    simp [execOp, ho, Instr.makeFunc, hv]
  | _ => simp only [ho] at h; cases h
theorem z1c0 {t : Ty} {xs : List (El t)} {n l : Nat} {cs : List Value} (h : Rep X (.arr n t) xs cs) (hl : l ≤ n) : Rep X (.arr l t) (xs.take l : List (El t)) (cs.take (l * t.cells)) := by
  obtain ⟨h1, h2, h3⟩ := h
  have hm := Nat.mul_le_mul_right t.cells hl
  refine ⟨by rw [List.length_take]; omega, by rw [List.length_take]; omega, fun j y hj => ?_⟩
  have hj : (xs.take l)[j]? = some y := hj
  rw [List.getElem?_take] at hj
  split at hj
  case isFalse => cases hj
  rename_i hjl
  have hk : (j + 1) * t.cells ≤ l * t.cells := Nat.mul_le_mul_right _ hjl
  rw [Nat.add_mul, Nat.one_mul] at hk
  have e : ((cs.take (l * t.cells)).drop (j * t.cells)).take t.cells = (cs.drop (j * t.cells)).take t.cells := by
    rw [List.drop_take, List.take_take, Nat.min_eq_left (by omega)]
  rw [e]
  exact h3 j y hj
theorem z1af {t : Ty} {xs : List (El t)} {n l : Nat} {cs : List Value} (h : Rep X (.arr n t) xs cs) (hl : l ≤ n) : Rep X (.arr (n - l) t) (xs.drop l : List (El t)) (cs.drop (l * t.cells)) := by
  obtain ⟨h1, h2, h3⟩ := h
  refine ⟨by rw [List.length_drop]; omega, by rw [List.length_drop, Nat.sub_mul]; omega, fun j y hj => ?_⟩
  have hj : (xs.drop l)[j]? = some y := hj
  rw [List.getElem?_drop] at hj
  rw [List.drop_drop, ← Nat.add_mul]
  exact h3 (l + j) y hj
theorem z1co {α : Type} (xs ys : List α) (lo : Nat) (h : lo + ys.length ≤ xs.length) : (putL xs ys lo).length = xs.length := by
  unfold putL; simp; omega
theorem z11l (hE : EnvOk P E) (hr : Rel X s a) {d x : Operand} {T e : TypeId} {t : Ty} {ts : Array TypeId} (ho : o.op = .call ⟨.builtin .copy, #[d, x], ts⟩) (hts : ts[0]? = some T) (hT : E.ty T = some (.sl e t)) {id n lo : Nat} {ta tb : Ty} {p : List Nat}
    (hxe : s.op1 d = .ptr id (.spc (.hdr n) ta tb) p) (hval : ∀ r, ptrV (.spc (.hdr n) ta tb) p r (a.eval d) → ∃ cap off, a.eval d = .slice (some ⟨r, off, none⟩) (n - lo) cap ∧ lo ≤ n ∧ ((n = lo ∧ off = 0) ∨ off = lo * ta.cells))
    (h : copyH t s id n lo ta tb (s.op1 x) e some = some u) : Done P X s a o u := by
  have hx := hr.op1 d
  rw [hxe] at hx
  obtain ⟨r0, hβ, hv⟩ := hx
  unfold copyH at h
  split at h
  case isFalse => cases h
  rename_i heq
  have := Ty.eqb_eq heq
  subst this
  obtain ⟨ys, h, hys⟩ := z15 h
  split at h
  case h_2 => cases h
  rename_i B hB
  split at h
  case isFalse => cases h
  rename_i hbt
  obtain ⟨hb, r, h1, how, cs, T', hheap, hsz, hel⟩ := z89 hr hB hbt
  rw [hβ] at h1
  cases h1
  generalize (Ty.cast hbt B.x : List (El ta)) = xs at *
  cases hn : Nat.beq n (List.length xs) <;> rw [hn] at h
  · cases h
  cases hlo : Nat.ble lo n <;> rw [hlo] at h
  · cases h
  cases h
  have hn := Nat.eq_of_beq_eq_true hn
  have hlo := Nat.le_of_ble_eq_true hlo
  obtain ⟨cap, off, hd, _, hoff⟩ := hval r0 hv
  obtain ⟨cx, rys, ev⟩ := hys X _ _ (hr.op1 x)
  have rys0 := rys
  obtain ⟨A, c, hcx, _⟩ := rys0
  have ev : a.eval x = .slice A ys.length c := by rw [ev, hcx]; rfl
  rw [hcx] at rys
  obtain ⟨_, hc, cy, ry, ny, sy⟩ := zdt (X := X) rys
  have hu := (hE.ty T _ hT).und
  have hm : (ys.take (n - lo)).length = min ys.length (n - lo) := by rw [List.length_take, Nat.min_comm]
  generalize hmm : min ys.length (n - lo) = m at hm
  have hmy : m ≤ ys.length := by omega
  have hmn : m ≤ n - lo := by omega
  have htk : ys.take (n - lo) = ys.take m := by
    rw [← hmm]
    rcases Nat.le_total ys.length (n - lo) with g | g
    · rw [Nat.min_eq_left g, List.take_of_length_le g, List.take_of_length_le (Nat.le_refl _)]
    · rw [Nat.min_eq_right g]
  have rz := z1c0 ry hmy
  have hzl : (cy.take (m * ta.cells)).length = m * ta.cells := rz.2.1
  have hcs : Rep X (.arr xs.length ta) xs cs.toList := ⟨rfl, by simpa using hsz, hel⟩
  have hload : (Builtin.firstCells ta.cells m (a.eval x)).run P X.w = .ok (cy.take (m * ta.cells)).toArray X.w := by
    rw [ev]
    cases A with
    | none =>
      have := ny rfl
      subst this
      have : m = 0 := by simpa using hmy
      subst this
      simp [Builtin.firstCells]
    | some ad =>
      have := run_loadCells_list (P := P) X.w ad (cy.take (m * ta.cells)) (fun j v hj => by
        rw [List.getElem?_take] at hj
        split at hj
        · exact (sy ad rfl j v hj).2.1
        · cases hj)
      rw [hzl] at this
      simpa [Builtin.firstCells] using this
  have hfit : off + 0 + (cy.take (m * ta.cells)).length ≤ cs.size := by
    rw [hzl, hsz, ← hn]
    rcases hoff with ⟨g1, g2⟩ | g
    · have : m = 0 := by omega
      subst this
      omega
    · rw [g, Nat.add_zero, ← Nat.add_mul]
      exact Nat.mul_le_mul_right _ (by omega)
  let new := (cs.toList.take off ++ cy.take (m * ta.cells) ++ cs.toList.drop (off + (cy.take (m * ta.cells)).length)).toArray
  have hst := run_storeCells_at P r0 off T' (cy.take (m * ta.cells)) 0 cs X.w hheap hfit rz.one
  simp only [Nat.add_zero] at hst hfit
  have hrun : (execOp a.eval o).run P X.w = .ok (.value (.int .i64 m)) (X.row r0 new).w := by
    have hmm' : Nat.min ys.length (n - lo) = m := hmm
    simp only [execOp, ho, resolve, invoke, builtin, Sem.run_bind, Sem.run_pure, Result.andThen_ok, List.map_toArray, List.map_cons, List.map_nil, Builtin.copy_, hts, hd]
    have e1 : (Builtin.lenOf (a.eval x)).run P X.w = .ok ys.length X.w := by rw [ev]; simp [Builtin.lenOf]
    simp [run_underlying hu.1, e1, hmm', hload, hst, goInt, z19 hE hu.2]
    show _ = X.w.setRow r0 new
    congr 1
    simp [new]
  have hnl : new.toList = cs.toList.take off ++ cy.take (m * ta.cells) ++ cs.toList.drop (off + (cy.take (m * ta.cells)).length) := rfl
  have hrep : Rep X (.arr xs.length ta) (putL xs (ys.take m) lo : List (El ta)) new.toList := by
    rw [hnl, hzl]
    by_cases m0 : m = 0
    · subst m0
      have e1 : putL xs (ys.take 0) lo = xs := by unfold putL; simp
      rw [e1]
      simpa using hcs
    · have g : off = lo * ta.cells := by rcases hoff with ⟨g1, _⟩ | g <;> omega
      have h1 := z1c0 hcs (show lo ≤ xs.length by omega)
      have h3 := z1af hcs (show lo + m ≤ xs.length by omega)
      have := z4o h1 (z4o rz h3)
      rw [show lo + (m + (xs.length - (lo + m))) = xs.length by omega] at this
      unfold putL
      rw [show (ys.take m).length = m by rw [List.length_take]; omega, g, ← Nat.add_mul, List.append_assoc]
      exact this
  have hsize : new.size = cs.size := by
    have h1 : new.toList.length = xs.length * ta.cells := hrep.2.1
    rw [hsz, ← h1]; simp
  have hbox : BoxAt (X.row r0 new) id r0 ⟨.spc .row ta tb, (putL xs (ys.take (n - lo)) lo : List (El ta)), []⟩ := by
    rw [htk]
    refine ⟨how, new, T', setRow_heap X.w r0 cs new T' (0, 0) hheap, ?_, fun j z hj => ?_⟩
    · rw [hsize, hsz]
      show _ = List.length (putL xs (ys.take m) lo) * _
      rw [z1co _ _ _ (by rw [List.length_take]; omega)]
    · exact Rep.sees_mono (fun _ _ => z3g (cs := new) how) (hrep.2.2 j z hj)
  refine ⟨X.row r0 new, .int .i64 m, .inl hrun, zur how, ?_⟩
  rw [hm]
  exact (hr.row hb hβ how hbox).fin z16 (fun id t p hm => by simp [i64] at hm)
theorem z1nu {X : Cfg} (l : List UInt8) : Rep X (.arr l.length (.int .u8)) (l.map fun c => (c.toNat : Int) : List Int) (l.map fun c => Value.int .u8 c.toNat) := by
  refine ⟨by show (l.map _).length = _; simp, by simp [Ty.cells], fun j y hj => ?_⟩
  have hj : (l.map fun c => (c.toNat : Int))[j]? = some y := hj
  rw [List.getElem?_map] at hj
  obtain ⟨c, hc, rfl⟩ := Option.map_eq_some_iff.1 hj
  have : ((l.map fun c => Value.int .u8 c.toNat).drop (j * (Ty.int IntKind.u8).cells)).take (Ty.int IntKind.u8).cells = [Value.int .u8 c.toNat] := by
    rw [show (Ty.int IntKind.u8).cells = 1 from rfl, Nat.mul_one]
    apply List.ext_getElem?
    intro i
    rw [List.getElem?_take]
    cases i with
    | zero => simp [hc]
    | succ i => simp
  rw [this]
  rfl
theorem z1fh (hE : EnvOk P E) (hr : Rel X s a) {d x : Operand} {T e : TypeId} {t : Ty} {ts : Array TypeId} (ho : o.op = .call ⟨.builtin .copy, #[d, x], ts⟩) (hts : ts[0]? = some T) (hT : E.ty T = some (.sl e t)) {id n : Nat} {ta tb : Ty}
    (hxe : s.op1 d = .ptr id (.spc (.hdr n) ta tb) []) {y : ByteArray} {w : List (List Nat)} (hye : s.op1 x = .dat .str y w) (h : copyS t s id n ta tb y some = some u) : Done P X s a o u := by
  have hx := hr.op1 d
  rw [hxe] at hx
  obtain ⟨r0, hβ, cap, hd, hcap⟩ := hx
  unfold copyS at h
  split at h
  case isFalse => cases h
  rename_i heq0
  have := Ty.eqb_eq heq0
  subst this
  split at h
  case isFalse => cases h
  rename_i heq
  have := Ty.eqb_eq heq
  subst this
  split at h
  case h_2 => cases h
  rename_i B hB
  split at h
  case isFalse => cases h
  rename_i hbt
  obtain ⟨hb, r, h1, how, cs, T', hheap, hsz, hel⟩ := z89 hr hB hbt
  rw [hβ] at h1
  cases h1
  generalize (Ty.cast hbt B.x : List Int) = xs at *
  cases hn : Nat.beq n (List.length xs) <;> rw [hn] at h
  · cases h
  cases h
  have hn := Nat.eq_of_beq_eq_true hn
  have hy := hr.op1 x
  rw [hye] at hy
  obtain ⟨cy, ry, ev, _⟩ := hy
  have ev : a.eval x = .string y := by rw [ev, z1y ry]
  have hu := (hE.ty T _ hT).und
  have hc1 : (Ty.int IntKind.u8).cells = 1 := rfl
  rw [hc1, Nat.mul_one] at hsz
  let l := y.data.toList.take n
  have hll : l.length = min n y.size := by simp [l]
  have hbl : List.take n (z3c y) = l.map fun c => (c.toNat : Int) := by simp [z3c, l]
  have hload : (Builtin.firstCells 1 (Nat.min y.size n) (.string y)).run P X.w = .ok (l.map fun c => Value.int .u8 c.toNat).toArray X.w := by
    have e1 : ((y.extract 0 (Nat.min y.size n)).data.map fun b => Value.int .u8 b.toNat) = (l.map fun c => Value.int .u8 c.toNat).toArray := by
      apply Array.ext'
      have e0 : (y.extract 0 (Nat.min y.size n)).data.toList = l := by
        rw [ByteArray.data_extract, Array.toList_extract, List.extract_eq_take_drop]
        show List.take (Nat.min y.size n - 0) (y.data.toList.drop 0) = y.data.toList.take n
        rw [Nat.sub_zero, List.drop_zero]
        show List.take (min y.data.toList.length n) y.data.toList = y.data.toList.take n
        rw [Nat.min_comm, ← List.take_eq_take_min]
      rw [Array.toList_map, e0]
    simp only [Builtin.firstCells, Sem.run_pure, e1]
  have hfit : 0 + (l.map fun c => Value.int .u8 c.toNat).length ≤ cs.size := by
    rw [List.length_map, hsz, ← hn, hll]; omega
  let new := ((l.map fun c => Value.int .u8 c.toNat) ++ cs.toList.drop l.length).toArray
  have rz := z1nu (X := X) l
  have hst := run_storeCells_at P r0 0 T' (l.map fun c => Value.int .u8 c.toNat) 0 cs X.w hheap (by simpa using hfit) rz.one
  have hrun : (execOp a.eval o).run P X.w = .ok (.value (.int .i64 (l.length : Nat))) (X.row r0 new).w := by
    have e1 : (Builtin.lenOf (a.eval x)).run P X.w = .ok y.size X.w := by rw [ev]; simp [Builtin.lenOf]
    have e2 : Nat.min y.size n = l.length := by rw [hll]; exact Nat.min_comm _ _
    have e3 := hload
    rw [e2] at e3
    simp only [execOp, ho, resolve, invoke, builtin, Sem.run_bind, Sem.run_pure, Result.andThen_ok, List.map_toArray, List.map_cons, List.map_nil, Builtin.copy_, hts, hd]
    rw [ev] at e1 ⊢
    simp [run_underlying hu.1, e1, e2, e3, hst, goInt, z19 hE hu.2, hc1]
    rfl
  have hcs : Rep X (.arr xs.length (.int .u8)) xs cs.toList := ⟨rfl, by simpa [hc1] using hsz, hel⟩
  have hrep : Rep X (.arr xs.length (.int .u8)) (putL xs (l.map fun c => (c.toNat : Int)) 0 : List Int) new.toList := by
    have hle : l.length ≤ xs.length := by rw [hll]; omega
    have h3 := z1af hcs hle
    have := z4o rz h3
    rw [show l.length + (xs.length - l.length) = xs.length by omega] at this
    unfold putL
    simp only [List.take_zero, List.nil_append, Nat.zero_add, List.length_map]
    rw [hc1, Nat.mul_one] at this
    exact this
  have hsize : new.size = cs.size := by
    have h1 : new.toList.length = xs.length * 1 := hrep.2.1
    rw [hsz]; simpa using h1
  have hbox : BoxAt (X.row r0 new) id r0 ⟨.spc .row (.int .u8) tb, (putL xs (List.take n (z3c y)) 0 : List Int), []⟩ := by
    rw [hbl]
    refine ⟨how, new, T', setRow_heap X.w r0 cs new T' (0, 0) hheap, ?_, fun j z hj => ?_⟩
    · rw [hsize, hsz]
      show _ = List.length (putL xs (l.map fun c => (c.toNat : Int)) 0) * _
      rw [z1co _ _ _ (by rw [List.length_map, hll]; omega)]
      simp [hc1]
    · exact Rep.sees_mono (fun _ _ => z3g (cs := new) how) (hrep.2.2 j z hj)
  refine ⟨X.row r0 new, .int .i64 (l.length : Nat), .inl hrun, zur how, ?_⟩
  have hlen2 : (List.take n (z3c y)).length = l.length := by rw [hbl, List.length_map]
  rw [hlen2]
  exact (hr.row hb hβ how hbox).fin z16 (fun id t p hm => by simp [i64] at hm)
theorem z1l3 (hE : EnvOk P E) (hr : Rel X s a) {ops : List Oper} {asv : Array Operand} {ts : Array TypeId} (ho : o.op = .call ⟨.builtin .copy, asv, ts⟩) {C : FuncId → Fun' Out} (h : act E C ops o s some = some u) : Done P X s a o u := by
  unfold act at h
  simp only [ho] at h
  split at h
  case h_2 => cases h
  rename_i d x T r hxs hTs
  have has : asv = #[d, x] := by rw [← Array.toArray_toList (xs := asv), hxs]
  have hts : ts[0]? = some T := by rw [← Array.getElem?_toList, hTs]; rfl
  subst has
  unfold copyV at h
  split at h
  · rename_i e t id n ta tb hT hxe
    split at h
    · rename_i y w hye
      exact z1fh hE hr ho hts hT hxe hye h
    · exact z11l hE hr ho hts hT hxe (fun r hv => by
        obtain ⟨cap, h1, h2⟩ := hv
        exact ⟨cap, 0, h1, Nat.zero_le _, .inr (by simp)⟩) h
  · rename_i e t id n ta tb l hT hxe
    exact z11l hE hr ho hts hT hxe (fun r hv => by
      obtain ⟨cap, off, h1, h2, h3, h4⟩ := hv
      exact ⟨cap, off, h1, h3, h4⟩) h
  · cases h
end Go.Ref
namespace Go.Ref
open Go
variable {P : Program} {E : Env} {X : Cfg} {s : State} {a : Act} {o : Oper} {u : Out}
structure Enter (X : Cfg) (l : List SV) (b : Option Box) (args : Array Value) : Prop where
  size : args.size = l.length
  rep : ∀ (i : Nat) sv v, l[i]? = some sv → args[i]? = some v → RepV X (.c i 0) sv v
  ptr : ∀ id t p, SV.ptr id t p ∈ l → id = 0 ∧ b.isSome = true
  box : ∀ B, b = some B → ∃ r, X.β 0 = some r ∧ BoxAt X 0 r B
def Leave (X Y : Cfg) (b : Option Box) (r : List SV) (b' : Option Box) (v : Value) : Prop :=
  ∃ r0, RepL { Y with β := fun _ => some r0 } .r r v ∧
    (∀ B', b' = some B' → BoxAt Y 0 r0 B' ∧ (b.isSome = true → X.β 0 = some r0)) ∧
    ((b' = none ∨ b.isSome = true) → ∀ id t p, SV.ptr id t p ∉ r)
def Ent (P : Program) (f : FuncId) : Prop := ∃ fn c, P.funcs[f]? = some fn ∧ (fn.name == "runtime.NumGoroutine") = false ∧ fn.body = some c
def Owes (P : Program) (C : Funs) (f : FuncId) : Prop :=
  ∀ (l : List SV) (b : Option Box) (r : List SV) (b' : Option Box), C (List SV × Option Box) f l b (fun r b => some (r, b)) = some (r, b') → Ent P f ∧
    ∀ (X : Cfg) (args : Array Value), Enter X l b args → Calls P f args X.w fun e w' => match e with
      | .returned v => ∃ Y, Y.w = w' ∧ Ext X Y ∧ Leave X Y b r b' v
      | _ => False
def mine (k : Option Nat) : Ow → Bool
  | .box id => decide (k = some id)
  | .row (.b id _) _ => decide (k = some id)
  | _ => false
def inOw (k : Option Nat) : Ow → Ow
  | .all => .all
  | .ro n => .ro n
  | .box id => if k = some id then .box 0 else .ro 0
  | .row (.b id p) n => if k = some id then .row (.b 0 p) n else .ro n
  | .row _ n => .ro n
def outOw (k : Option Nat) (d : Nat) : Ow → Ow
  | .all => .all
  | .ro n => .ro n
  | .box 0 => match k with
    | some id => .box id
    | none => .ro 0
  | .box _ => .ro 0
  | .row (.r j p) n => .row (.c d j p) n
  | .row (.b 0 p) n => match k with
    | some id => .row (.b id p) n
    | none => .ro n
  | .row _ n => .ro n
theorem z150 {k : Option Nat} {w : Ow} {i : Nat} : (inOw k w).used i ↔ w.used i := by
  cases w with
  | all => rfl
  | ro n => rfl
  | box id => simp only [inOw]; split <;> simp [Ow.used]
  | row pl n =>
    cases pl with
    | b id p => simp only [inOw]; split <;> simp [Ow.used]
    | _ => rfl
theorem z1fd {k : Option Nat} {d : Nat} {w : Ow} {i : Nat} (h : w.used i) : (outOw k d w).used i := by
  cases w with
  | all => exact h
  | ro n => exact h
  | box id => exact h.elim
  | row pl n =>
    cases pl with
    | b id p =>
      cases id with
      | zero => simp only [outOw]; split <;> exact h
      | succ id => exact h
    | c i j p => exact h
    | r j p => exact h
theorem z11b {k : Option Nat} {w : Ow} (h : mine k w = false) : (inOw k w).still := by
  cases w with
  | all => trivial
  | ro n => trivial
  | box id => simp only [mine, decide_eq_false_iff_not] at h; simp only [inOw]; rw [if_neg h]; trivial
  | row pl n =>
    cases pl with
    | b id p => simp only [mine, decide_eq_false_iff_not] at h; simp only [inOw]; rw [if_neg h]; trivial
    | _ => trivial
def Cfg.into (X : Cfg) (k : Option Nat) : Cfg := ⟨X.w, fun g => inOw k (X.ow g), match k with
  | some id => fun _ => X.β id
  | none => X.β⟩
theorem z2e {k : Option Nat} {ad : Addr} {v : Value} : (X.into k).sees ad v ↔ X.sees ad v := by
  simp only [Cfg.sees, Cfg.into, z150]
def Cfg.back (X Y : Cfg) (k k' : Option Nat) (d : Nat) (β : Nat → Option Nat) : Cfg :=
  ⟨Y.w, fun g => if g < X.w.heap.size ∧ mine k (X.ow g) = false then X.ow g else outOw k' d (Y.ow g), β⟩
section
variable {k k' : Option Nat} {d : Nat} {β : Nat → Option Nat} {Y : Cfg}
theorem z8c (h : Ext (X.into k) Y) {g : Nat} (hg : g < X.w.heap.size) (hm : mine k (X.ow g) = false) : (X.back Y k k' d β).ow g = X.ow g ∧ (X.back Y k k' d β).w.heap[g]? = X.w.heap[g]? ∧ (Y.ow g).still ∧ Y.ow g = inOw k (X.ow g) := by
  obtain ⟨h1, h2⟩ := h.still g hg (z11b hm)
  refine ⟨by simp only [Cfg.back]; rw [if_pos ⟨hg, hm⟩], h2, ?_, h1⟩
  rw [h1]; exact z11b hm
theorem zk6 (h : Ext (X.into k) Y) {g : Nat} (hs : ¬ (Y.ow g).still) : (X.back Y k k' d β).ow g = outOw k' d (Y.ow g) := by
  simp only [Cfg.back]
  rw [if_neg]
  rintro ⟨hg, hm⟩
  exact hs (z8c (k' := k') (d := d) (β := β) h hg hm).2.2.1
theorem z2a (h : Ext (X.into k) Y) {ad : Addr} {v : Value} (hs : Y.sees ad v) : (X.back Y k k' d β).sees ad v := by
  refine ⟨hs.1, hs.2.1, ?_⟩
  simp only [Cfg.back]
  split
  · rename_i hc
    have := (z8c (k' := k') (d := d) (β := β) h hc.1 hc.2).2.2.2
    have hu := hs.2.2
    rw [this, z150] at hu
    exact hu
  · exact z1fd hs.2.2
theorem zy6 (h : Ext (X.into k) Y) (hβ : β 0 = X.β 0) : Ext X (X.back Y k k' d β) where
  sees := fun ad v hs => z2a h (h.sees ad v (z2e.2 hs))
  size := h.size
  os := h.os
  tape := h.tape
  output := h.output
  β0 := hβ
  still := fun g hg hst => by
    have hm : mine k (X.ow g) = false := by cases hx : X.ow g <;> rw [hx] at hst <;> first | rfl | exact hst.elim
    obtain ⟨h1, h2, _⟩ := z8c (k' := k') (d := d) (β := β) h hg hm
    exact ⟨h1, h2⟩
theorem OwnAt.back (h : Ext (X.into k) Y) {pl : Place} (hpl : ∀ n, mine k (.row pl n) = false) {e : TypeId} {m n : Nat} {v : Value} (ho : OwnAt X pl e m n v) : OwnAt (X.back Y k k' d β) pl e m n v := by
  rcases ho with ho | ⟨g, cap, cur, h1, h2, h3, h4, h5, h6⟩
  · exact .inl ho
  · obtain ⟨k1, k2, _⟩ := z8c (k' := k') (d := d) (β := β) h (zbl h2) (by rw [h6]; exact hpl _)
    exact .inr ⟨g, cap, cur, h1, k2.trans h2, h3, h4, h5, k1.trans h6⟩
theorem OwnP.back (h : Ext (X.into k) Y) {pl : List Nat → Place} (hpl : ∀ p n, mine k (.row (pl p) n) = false) {t : Ty} {x : El t} {cs : List Value} {own : List (List Nat)} (ho : OwnP X pl t x cs own) : OwnP (X.back Y k k' d β) pl t x cs own := fun p hp => by
  obtain ⟨e, t', xs, v, g0, g1, g2, g3⟩ := ho p hp
  exact ⟨e, t', xs, v, g0, g1, g2, g3.back h (hpl p)⟩
theorem OwnP.out (h : Ext (X.into k) Y) {pl pl' : List Nat → Place} (hpl : ∀ p n, outOw k' d (.row (pl p) n) = .row (pl' p) n) {t : Ty} {x : El t} {cs : List Value} {own : List (List Nat)} (ho : OwnP Y pl t x cs own) : OwnP (X.back Y k k' d β) pl' t x cs own := fun p hp => by
  obtain ⟨e, t', xs, v, g0, g1, g2, g3⟩ := ho p hp
  refine ⟨e, t', xs, v, g0, g1, g2, ?_⟩
  rcases g3 with ho | ⟨g, cap, cur, h1, h2, h3, h4, h5, h6⟩
  · exact .inl ho
  · refine .inr ⟨g, cap, cur, h1, h2, h3, h4, h5, ?_⟩
    rw [zk6 h (by rw [h6]; exact fun e => e), h6, hpl]
theorem RepV.back (h : Ext (X.into k) Y) {i j : Nat} {sv : SV} {v : Value} (hβ : ∀ id t p, sv = .ptr id t p → β id = X.β id) (hr : RepV X (.c i j) sv v) : RepV (X.back Y k k' d β) (.c i j) sv v := by
  cases sv with
  | undef => trivial
  | skip => exact hr
  | nilS => exact hr
  | nilP => exact hr
  | over => exact hr
  | dat t x own =>
    obtain ⟨cs, h1, h2, h3⟩ := hr
    exact ⟨cs, h1.sees_mono (fun _ _ hs => z2a h (h.sees _ _ (z2e.2 hs))), h2, h3.back h (fun _ _ => rfl)⟩
  | ptr id t p =>
    obtain ⟨r, h1, h2⟩ := hr
    exact ⟨r, (hβ id t p rfl).trans h1, h2⟩
  | view t x =>
    obtain ⟨ad, cs, h1, h2, h3, h4⟩ := hr
    exact ⟨ad, cs, h1, h2, h3.sees_mono (fun _ _ hs => z2a h (h.sees _ _ (z2e.2 hs))), fun i u hi => z2a h (h.sees _ _ (z2e.2 (h4 i u hi)))⟩
  | cap f t x u y => exact z3i (fun _ _ hs => z2a h (h.sees _ _ (z2e.2 hs))) hr
theorem BoxAt.back (h : Ext (X.into k) Y) {id r : Nat} {B : Box} (hk : k ≠ some id) (hb : BoxAt X id r B) : BoxAt (X.back Y k k' d β) id r B := by
  obtain ⟨h3, h1⟩ := hb
  have hm : mine k (X.ow r) = false := by rw [h3]; simp [mine, hk]
  obtain ⟨k1, k2, _⟩ := z8c (k' := k') (d := d) (β := β) h h1.lt hm
  exact ⟨k1.trans h3, h1.move (fun _ _ hs => z2a h (h.sees _ _ (z2e.2 hs))) k2 (fun cs h4 => h4.back h (fun _ _ => by simp [mine, hk])) fun _ g o ho hw => by
    obtain ⟨e1, e2, _⟩ := z8c (k' := k') (d := d) (β := β) h (zbl ho) (by rw [hw]; simp [mine, hk])
    exact ⟨e2.trans ho, e1.trans hw⟩⟩
theorem BoxAt.out (h : Ext (X.into k) Y) {id r : Nat} {B : Box} (hk : k' = some id) (hb : BoxAt Y 0 r B) : BoxAt (X.back Y k k' d β) id r B := by
  obtain ⟨h3, h1⟩ := hb
  refine ⟨?_, h1.move (fun _ _ hs => z2a h hs) rfl (fun cs h4 => h4.out h (fun p n => by simp [outOw, hk])) fun _ g o ho hw => ⟨ho, by rw [zk6 h (by rw [hw]; exact fun hh => hh), hw]; simp [outOw, hk]⟩⟩
  rw [zk6 h (by rw [h3]; exact fun e => e), h3]
  simp [outOw, hk]
theorem RepV.out (h : Ext (X.into k) Y) {r0 id j : Nat} {sv : SV} {v : Value} (hβ : ∀ id' t p, sv = .ptr id' t p → β id = some r0) (hr : RepV { Y with β := fun _ => some r0 } (.r j) sv v) : RepV (X.back Y k k' d β) (.c d j) (sv.reptr id) v := by
  cases sv with
  | undef => trivial
  | skip => exact hr
  | nilS => exact hr
  | nilP => exact hr
  | over => exact hr
  | dat t x own =>
    obtain ⟨cs, h1, h2, h3⟩ := hr
    have h3 : OwnP Y (.r j) t x cs own := h3
    exact ⟨cs, Rep.sees_mono (fun ad v (hs : ({ Y with β := fun _ => some r0 } : Cfg).sees ad v) => z2a (Y := Y) h hs) h1, h2, h3.out h (fun _ _ => rfl)⟩
  | ptr id' t p =>
    obtain ⟨r, h1, h2⟩ := hr
    have h1 : some r0 = some r := h1
    cases h1
    exact ⟨r0, hβ id' t p rfl, h2⟩
  | view t x =>
    obtain ⟨ad, cs, h1, h2, h3, h4⟩ := hr
    exact ⟨ad, cs, h1, h2, Rep.sees_mono (fun ad v (hs : ({ Y with β := fun _ => some r0 } : Cfg).sees ad v) => z2a (Y := Y) h hs) h3, fun i u hi => z2a h (show Y.sees _ _ from h4 i u hi)⟩
  | cap f t x u y => exact z3i (X := { Y with β := fun _ => some r0 }) (fun ad v (hs : ({ Y with β := fun _ => some r0 } : Cfg).sees ad v) => z2a (Y := Y) h hs) hr
theorem Rel.back (h : Ext (X.into k) Y) (hr : Rel X s a) (hβ : ∀ (id : Nat) B, s.bs[id]? = some (some B) → β id = X.β id) (hk : ∀ (id : Nat) B, s.bs[id]? = some (some B) → k ≠ some id) : Rel (X.back Y k k' d β) s a where
  size := hr.size
  bsz := hr.bsz
  slots := fun i l v hl hv => (hr.slots i l v hl hv).impF fun j sv u hm hsv => hsv.back h (fun id t p e => by
    obtain ⟨B, hB⟩ := hr.live i l id t p hl (e ▸ List.mem_of_getElem? hm)
    exact hβ id B hB)
  boxes := fun id B hB => by
    obtain ⟨r, h1, h2⟩ := hr.boxes id B hB
    exact ⟨r, (hβ id B hB).trans h1, h2.back h (hk id B hB)⟩
  live := hr.live
  defers := hr.defers
theorem Rel.backBox (h : Ext (X.into k) Y) (hr : Rel X s a) {id r : Nat} {B B' : Box} (hb : s.bs[id]? = some (some B)) (hk : k = some id) (hk' : k' = some id) (hβ : X.β id = some r) (hB : BoxAt Y 0 r B') : Rel (X.back Y k k' d X.β) (s.putBox (some (id, B'))) a where
  size := hr.size
  bsz := by simpa [State.putBox] using hr.bsz
  slots := fun i l v hl hv => (hr.slots i l v hl hv).impF fun j sv u hm hsv => hsv.back h (fun _ _ _ _ => rfl)
  boxes := fun id' B2 hB2 => by
    have hlt : id < s.bs.length := (List.getElem?_eq_some_iff.1 hb).1
    simp only [State.putBox, List.getElem?_set] at hB2
    by_cases e : id = id'
    · subst e
      rw [if_pos rfl, if_pos hlt] at hB2
      cases hB2; exact ⟨r, hβ, hB.out h hk'⟩
    · rw [if_neg e] at hB2
      obtain ⟨r', h1, h2⟩ := hr.boxes id' B2 hB2
      exact ⟨r', h1, h2.back h (by rw [hk]; intro e2; cases e2; exact e rfl)⟩
  live := fun i l id' t p hi hm => by
    have hlt : id < s.bs.length := (List.getElem?_eq_some_iff.1 hb).1
    obtain ⟨B2, hB2⟩ := hr.live i l id' t p hi hm
    simp only [State.putBox, List.getElem?_set]
    by_cases e : id = id'
    · subst e; exact ⟨B', by rw [if_pos rfl, if_pos hlt]⟩
    · rw [if_neg e]; exact ⟨B2, hB2⟩
  defers := hr.defers
end
theorem RepV.into {k : Option Nat} {pl pl' : List Nat → Place} {t : Ty} {x : El t} {w : List (List Nat)} {v : Value} (hr : RepV X pl (.dat t x w) v) : RepV (X.into k) pl' (.dat t x []) v := by
  obtain ⟨cs, h1, h2, _⟩ := hr
  exact ⟨cs, h1.sees_mono (fun _ _ => z2e.2), h2, z1r⟩
theorem BoxAt.into {id r : Nat} {B : Box} (hb : BoxAt X id r B) : BoxAt (X.into (some id)) 0 r B := by
  obtain ⟨h3, h1⟩ := hb
  refine ⟨by simp [Cfg.into, h3, inOw], h1.move (fun _ _ => z2e.2) rfl (fun cs h4 p hp => ?_) fun _ g o ho hw => ⟨ho, by simp [Cfg.into, hw, inOw]⟩⟩
  obtain ⟨e, t', xs, v, g0, g1, g2, g3⟩ := h4 p hp
  refine ⟨e, t', xs, v, g0, g1, g2, ?_⟩
  rcases g3 with ho | ⟨g, cap, cur, k1, k2, k3, k4, k5, k6⟩
  · exact .inl ho
  · exact .inr ⟨g, cap, cur, k1, k2, k3, k4, k5, by simp [Cfg.into, k6, inOw]⟩
theorem z1ca (hr : Rel X s a) : ∀ (vs : List (SV × Value)) (l : List SV) (b : Option (Nat × Box)), (∀ x ∈ vs, ∃ q, RepV X q x.1 x.2) → z26 s (vs.map (·.1)) = some (l, b) → l.length = vs.length ∧
    (∀ id B, b = some (id, B) → s.bs[id]? = some (some B)) ∧
    (∀ id t p, SV.ptr id t p ∈ l → id = 0 ∧ b.isSome = true) ∧
    ∀ k, (∀ id B, b = some (id, B) → k = some id) → ∀ (i : Nat) sv x, l[i]? = some sv → vs[i]? = some x → ∀ q, RepV (X.into k) q sv x.2 := by
  intro vs
  induction vs with
  | nil =>
    intro l b _ h
    simp only [List.map_nil, z26, Option.some.injEq, Prod.mk.injEq] at h
    obtain ⟨rfl, rfl⟩ := h
    refine ⟨rfl, (fun id B e => by cases e), (fun id t p hm => by cases hm), fun k _ i sv x hl => by simp at hl⟩
  | cons x r ih =>
    intro l b hps h
    simp only [List.map_cons, z26] at h
    split at h
    · cases h
    rename_i l1 b1 h1
    obtain ⟨i1, i2, i3, i4⟩ := ih l1 b1 (fun y hy => hps y (List.mem_cons_of_mem _ hy)) h1
    obtain ⟨q0, hx⟩ := hps x List.mem_cons_self
    have fin : ∀ (sv : SV), l = sv :: l1 → (∀ id B, b1 = some (id, B) → b = b1) → (∀ id B, b = some (id, B) → s.bs[id]? = some (some B)) → (∀ id t p, sv = .ptr id t p → id = 0 ∧ b.isSome = true) →
        (∀ k, (∀ id B, b = some (id, B) → k = some id) → ∀ q, RepV (X.into k) q sv x.2) → l.length = (x :: r).length ∧
        (∀ id B, b = some (id, B) → s.bs[id]? = some (some B)) ∧
        (∀ id t p, SV.ptr id t p ∈ l → id = 0 ∧ b.isSome = true) ∧
        ∀ k, (∀ id B, b = some (id, B) → k = some id) → ∀ (i : Nat) sv y, l[i]? = some sv → (x :: r)[i]? = some y → ∀ q, RepV (X.into k) q sv y.2 := by
      intro sv hl hb hbox hne hrep
      subst hl
      refine ⟨by simp [i1], hbox, fun id t p hm => ?_, fun k hk i sv' y hl hv => ?_⟩
      · rcases List.mem_cons.1 hm with e | hm
        · exact hne id t p e.symm
        · obtain ⟨j1, j2⟩ := i3 id t p hm
          cases hb1 : b1 with
          | none => rw [hb1] at j2; cases j2
          | some bb => rw [hb bb.1 bb.2 hb1]; exact ⟨j1, j2⟩
      · cases i with
        | zero =>
          simp only [List.getElem?_cons_zero, Option.some.injEq] at hl hv
          subst hl hv
          exact hrep k hk
        | succ i =>
          simp only [List.getElem?_cons_succ] at hl hv
          exact i4 k (fun id B e => hk id B (by rw [hb id B e]; exact e)) i sv' y hl hv
    obtain ⟨x1, x2⟩ := x
    simp only at h hx fin
    split at h
    · cases h
      exact fin _ rfl (fun _ _ _ => rfl) i2 (fun _ _ _ e => by cases e) (fun k _ q => hx.into)
    · cases h
      exact fin _ rfl (fun _ _ _ => rfl) i2 (fun _ _ _ e => by cases e) (fun k _ q => hx)
    · cases h
      refine fin _ rfl (fun _ _ _ => rfl) i2 (fun _ _ _ e => by cases e) (fun k _ q => ?_)
      obtain ⟨ad, cs, g1, g2, g3, g4⟩ := hx
      exact ⟨ad, cs, g1, g2, g3.sees_mono (fun _ _ => z2e.2), fun i w hi => z2e.2 (g4 i w hi)⟩
    · rename_i id t
      split at h
      case h_2 => cases h
      rename_i B hB
      split at h
      case isFalse => cases h
      cases h
      obtain ⟨rr, g1, g2⟩ := hx
      refine fin _ rfl (fun _ _ e => by cases e) (fun id B e => by cases e; exact z2h hB) (fun _ _ _ e => by cases e; exact ⟨rfl, rfl⟩) (fun k hk q => ?_)
      have := hk id B rfl
      subst this
      exact ⟨rr, g1, g2⟩
    · cases h
def Does (P : Program) (X : Cfg) (s : State) (a : Act) (o : Oper) (u : Out) : Prop :=
  ∀ (next : Act → World → Prop) (Q : Exit → Act → World → Prop), (∀ Y v, Ext X Y → Rel Y (s.apply o.dst u) (a.put o.dst v) → next (a.put o.dst v) Y.w) → o.wp P a X.w next Q
theorem Done.does (h : Done P X s a o u) : Does P X s a o u := fun next Q hn => by
  obtain ⟨Y, v, h1, h2, h3⟩ := h
  unfold Oper.wp
  rcases h1 with h1 | ⟨h1, rfl⟩
  · rw [h1, Oper.upon_value]; exact hn Y v h2 h3
  · rw [h1, Oper.upon_skip]; exact hn Y _ h2 h3
theorem z1kt {f : FuncId} (h : Ent P f) {asv : Array Operand} {ts : Array TypeId} (ho : o.op = .call ⟨.value (.func f), asv, ts⟩) (w : World) : (execOp a.eval o).run P w = .ok (.enter f (asv.map a.eval)) w := by
  obtain ⟨fn, c, h1, h2, h3⟩ := h
  simp [execOp, ho, resolve, Deferred.ofValue, Act.eval, invoke, callFunc, h1, h3]
  simpa using h2
theorem z102 {l : List SV} {id : Nat} (h : ∀ id t p, SV.ptr id t p ∉ l) : l.map (SV.reptr id) = l := by
  induction l with
  | nil => rfl
  | cons v r ih =>
    rw [List.map_cons, ih (fun id t p hm => h id t p (List.mem_cons_of_mem _ hm))]
    congr 1
    cases v <;> first | rfl | skip
    exact absurd (List.mem_cons_self) (h _ _ _)
theorem zyd {k k' : Option Nat} {d : Nat} {β : Nat → Option Nat} {Y : Cfg} (h : Ext (X.into k) Y) {r0 id : Nat} {r : List SV} {v : Value} (hβ : ∀ id' t p, SV.ptr id' t p ∈ r → β id = some r0) (hr : RepL { Y with β := fun _ => some r0 } .r r v) : RepL (X.back Y k k' d β) (.c d) (r.map (SV.reptr id)) v := by
  match r, hr with
  | [sv], hr => exact RepV.out h (fun id' t p e => hβ id' t p (by simp [e])) hr
  | [], ⟨vs, h1, h2, h3⟩ => exact ⟨vs, h1, h2, fun j s u hs => by simp at hs⟩
  | x :: y :: r, ⟨vs, h1, h2, h3⟩ =>
    refine ⟨vs, h1, by simpa using h2, fun j sv u hs hu => ?_⟩
    have hs : ((x :: y :: r).map (SV.reptr id))[j]? = some sv := hs
    rw [List.getElem?_map] at hs
    obtain ⟨s0, hs0, rfl⟩ := Option.map_eq_some_iff.1 hs
    exact RepV.out h (fun id' t p e => hβ id' t p (e ▸ List.mem_of_getElem? hs0)) (h3 j s0 u hs0 hu)
theorem zk4 (hr : Rel X s a) {C : Funs} (hC : C.Nat) {f : FuncId} (hf : Owes P C f) {vs : List (SV × Value)} (hvs : ∀ x ∈ vs, ∃ q, RepV X q x.1 x.2) (hent : Ent P f → (execOp a.eval o).run P X.w = .ok (.enter f (vs.map (·.2)).toArray) X.w) (h : callV (C Out) s o.dst f (vs.map (·.1)) some = some u) : Does P X s a o u := by
  have hrun := hent
  clear hent
  unfold callV at h
  have enter : ∀ (l : List SV) (b : Option (Nat × Box)) (k : Option Nat), z26 s (vs.map (·.1)) = some (l, b) → (∀ id B, b = some (id, B) → k = some id) → Enter (X.into k) l (b.map (·.2)) (vs.map (·.2)).toArray := by
    intro l b k hargs hk
    obtain ⟨i1, i2, i3, i4⟩ := z1ca hr vs l b hvs hargs
    refine ⟨by simpa using i1.symm, fun i sv v hl hv => ?_, fun id t p hm => ?_, fun B hB => ?_⟩
    · rw [List.getElem?_toArray, List.getElem?_map] at hv
      obtain ⟨x, hx, rfl⟩ := Option.map_eq_some_iff.1 hv
      exact i4 k hk i sv x hl hx _
    · obtain ⟨j1, j2⟩ := i3 id t p hm
      exact ⟨j1, by simpa using j2⟩
    · obtain ⟨bb, hbb, rfl⟩ := Option.map_eq_some_iff.1 hB
      obtain ⟨id, B⟩ := bb
      obtain ⟨r, h1, h2⟩ := hr.boxes id B (i2 id B hbb)
      have := hk id B hbb
      subst this
      exact ⟨r, h1, h2.into⟩
  split at h
  · rename_i l hargs
    obtain ⟨⟨r, b'⟩, hcall, h⟩ := z1x (hC Out _ f l none _ (fun r b => some (r, b)) (fun z => match z.2 with
      | none => some { v := z.1 }
      | some B => match o.dst with
        | some d => match s.bs[d + 1]? with
          | some none => some { v := z.1.map (SV.reptr (d + 1)), bx := some (d + 1, B) }
          | _ => none
        | none => none) (fun r b => rfl)) h
    obtain ⟨hent, howes⟩ := hf l none r b' hcall
    have hen := enter l none none hargs (fun id B e => by cases e)
    intro next Q hn
    unfold Oper.wp
    rw [hrun hent, Oper.upon_enter]
    refine (howes (X.into none) _ hen).mono fun e w' he => ?_
    cases e with
    | returned v =>
      obtain ⟨Y, rfl, hext, r0, hrep, hbox, hptr⟩ := he
      simp only at h
      cases b' with
      | none =>
        cases h
        have hp := hptr (.inl rfl)
        have hext2 := zy6 (k' := none) (d := o.dst.getD 0) (β := X.β) hext rfl
        refine hn (X.back Y none none (o.dst.getD 0) X.β) v hext2 ?_
        refine (Rel.back (k' := none) hext hr (fun _ _ _ => rfl) (fun _ _ _ => by simp)).fin ?_ (fun id t p hm => absurd hm (hp id t p))
        have := zyd (k' := none) (d := o.dst.getD 0) (β := X.β) (id := 0) hext (fun id' t p hm => absurd hm (hp id' t p)) hrep
        rw [z102 hp] at this
        exact this
      | some B =>
        simp only at h
        split at h
        case h_2 => cases h
        rename_i d hd
        split at h
        case h_2 => cases h
        rename_i hbs
        cases h
        have hlt : d + 1 < s.bs.length := (List.getElem?_eq_some_iff.1 hbs).1
        obtain ⟨hB, _⟩ := hbox B rfl
        let β : Nat → Option Nat := fun id => if id = d + 1 then some r0 else X.β id
        have hβd : β (d + 1) = some r0 := by simp [β]
        have hext2 := zy6 (k' := some (d + 1)) (d := d) (β := β) hext (by simp [β])
        refine hn (X.back Y none (some (d + 1)) d β) v hext2 ?_
        have hrel := (Rel.back (k' := some (d + 1)) (d := d) (β := β) hext hr (fun id B2 hB2 => by
          show (if _ then _ else _) = _
          rw [if_neg (fun e => by rw [e, hbs] at hB2; cases hB2)]) (fun _ _ _ => by simp)).newBox hlt hbs hβd (hB.out hext rfl)
        rw [hd]
        refine hrel.put (fun d' e => ?_) (fun id t p hm => ?_)
        · cases e
          exact zyd hext (fun _ _ _ _ => hβd) hrep
        · obtain ⟨s0, _, he0⟩ := List.mem_map.1 hm
          have : id = d + 1 := by
            cases s0 <;> simp [SV.reptr] at he0
            exact he0.1.symm
          subst this
          exact ⟨B, by simp [State.close, State.putBox, List.getElem?_set, hlt]⟩
    | panicked c => exact he.elim
    | outgrown => exact he.elim
  · rename_i l id B hargs
    obtain ⟨⟨r, b'⟩, hcall, h⟩ := z1x (hC Out _ f l (some B) _ (fun r b => some (r, b)) (fun z => match z.2 with
      | some B' => if B'.t.eqb B.t = true then some { v := z.1, bx := some (id, B') } else none
      | none => none) (fun r b => rfl)) h
    obtain ⟨hent, howes⟩ := hf l (some B) r b' hcall
    have hen := enter l (some (id, B)) (some id) hargs (fun id B e => by cases e; rfl)
    obtain ⟨_, i2, _, _⟩ := z1ca hr vs l _ hvs hargs
    have hb := i2 id B rfl
    intro next Q hn
    unfold Oper.wp
    rw [hrun hent, Oper.upon_enter]
    refine (howes (X.into (some id)) _ hen).mono fun e w' he => ?_
    cases e with
    | returned v =>
      obtain ⟨Y, rfl, hext, r0, hrep, hbox, hptr⟩ := he
      simp only at h
      cases b' with
      | none => cases h
      | some B' =>
        simp only at h
        split at h
        case isFalse => cases h
        cases h
        have hp := hptr (.inr rfl)
        obtain ⟨hB, hβ⟩ := hbox B' rfl
        have hβ := hβ rfl
        have hext2 := zy6 (k' := some id) (d := o.dst.getD 0) (β := X.β) hext rfl
        refine hn (X.back Y (some id) (some id) (o.dst.getD 0) X.β) v hext2 ?_
        refine (Rel.backBox (k := some id) (k' := some id) hext hr hb rfl rfl hβ hB).fin ?_ (fun id t p hm => absurd hm (hp id t p))
        have := zyd (k' := some id) (d := o.dst.getD 0) (β := X.β) (id := 0) hext (fun id' t p hm => absurd hm (hp id' t p)) hrep
        rw [z102 hp] at this
        exact this
    | panicked c => exact he.elim
    | outgrown => exact he.elim
  · cases h
theorem zk3 (hr : Rel X s a) (asv : Array Operand) : ∀ x ∈ asv.toList.map (fun x => (s.op1 x, a.eval x)), ∃ q, RepV X q x.1 x.2 := fun x hx => by
  obtain ⟨y, _, rfl⟩ := List.mem_map.1 hx
  exact ⟨_, hr.op1 y⟩
theorem z135 {X : Cfg} {pl : List Nat → Place} {sv : SV} {v : Value} (h : RepV X pl sv v) : RepV X pl sv.shut v := by
  cases sv with
  | dat t x own =>
    obtain ⟨cs, h1, h2, _⟩ := h
    exact ⟨cs, h1, h2, z1r⟩
  | _ => exact h
theorem z1rr {X : Cfg} {pl : Nat → List Nat → Place} {l : List SV} {v : Value} (h : RepL X pl l v) : RepL X pl (l.map SV.shut) v := by
  match l, h with
  | [sv], h => exact z135 (sv := sv) h
  | [], h => exact h
  | x :: y :: r, ⟨vs, g1, g2, g3⟩ =>
    refine ⟨vs, g1, by simpa using g2, fun j sv u hs' hu => ?_⟩
    have hs' : ((x :: y :: r).map SV.shut)[j]? = some sv := hs'
    rw [List.getElem?_map] at hs'
    obtain ⟨s0, hs0, rfl⟩ := Option.map_eq_some_iff.1 hs'
    exact z135 (g3 j s0 u hs0 hu)
theorem z1rw {l : List SV} {j : Nat} {t : Ty} {p : List Nat} (h : SV.ptr j t p ∈ l.map SV.shut) : SV.ptr j t p ∈ l := by
  obtain ⟨s0, hs0, he⟩ := List.mem_map.1 h
  cases s0 <;> first | (cases he; done) | (rw [← he]; exact hs0) | skip
theorem Rel.shutAt (hr : Rel X s a) {d : Nat} {l : List SV} : Rel X { s with sl := s.sl.set d l } a → Rel X { s with sl := s.sl.set d (l.map SV.shut) } a := fun h => {
  size := by simpa using hr.size
  bsz := by simpa using hr.bsz
  slots := fun i l' v hl hv => by
    replace hl : (s.sl.set d (l.map SV.shut))[i]? = some l' := hl
    rw [List.getElem?_set] at hl
    split at hl
    · rename_i hdi
      split at hl
      · cases hl
        rename_i hlt
        exact z1rr (h.slots i l v (by show (s.sl.set d l)[i]? = _; rw [List.getElem?_set, if_pos hdi, if_pos hlt]) hv)
      · cases hl
    · rename_i hdi
      exact h.slots i l' v (by show (s.sl.set d l)[i]? = _; rw [List.getElem?_set, if_neg hdi]; exact hl) hv
  boxes := h.boxes
  live := fun i l' id t p hl hm => by
    replace hl : (s.sl.set d (l.map SV.shut))[i]? = some l' := hl
    rw [List.getElem?_set] at hl
    split at hl
    · rename_i hdi
      split at hl
      · cases hl
        rename_i hlt
        exact h.live i l id t p (by show (s.sl.set d l)[i]? = _; rw [List.getElem?_set, if_pos hdi, if_pos hlt]) (z1rw hm)
      · cases hl
    · rename_i hdi
      exact h.live i l' id t p (by show (s.sl.set d l)[i]? = _; rw [List.getElem?_set, if_neg hdi]; exact hl) hm
  defers := h.defers }
theorem Does.shut (h : Does P X s a o u) : Does P X s a o u.shut := fun next Q hn => h next Q fun Y v hext hrel => hn Y v hext (by
  unfold State.apply at hrel ⊢
  show Rel Y (((s.close u.cl).putBox u.bx).putSlot o.dst (u.v.map SV.shut)) _
  generalize (s.close u.cl).putBox u.bx = s1 at *
  cases hd : o.dst with
  | none => rw [hd] at hrel; exact hrel
  | some d =>
    rw [hd] at hrel
    have e := Rel.shutAt (X := Y) (s := { s1 with sl := s1.sl.set d u.v }) (a := a.put (some d) v) (d := d) (l := u.v) hrel (by
      show Rel Y { s1 with sl := (s1.sl.set d u.v).set d u.v } _
      rw [List.set_set]; exact hrel)
    show Rel Y { s1 with sl := s1.sl.set d (u.v.map SV.shut) } _
    have e2 : Rel Y { s1 with sl := (s1.sl.set d u.v).set d (u.v.map SV.shut) } (a.put (some d) v) := e
    rw [List.set_set] at e2
    exact e2)
theorem z1r5 (hr : Rel X s a) {C : Funs} (hC : C.Nat) {f : FuncId} (hf : Owes P C f) {ops : List Oper} {asv : Array Operand} {ts : Array TypeId} (ho : o.op = .call ⟨.value (.func f), asv, ts⟩) (h : act E (C Out) ops o s some = some u) : Does P X s a o u := by
  unfold act at h
  simp only [ho] at h
  obtain ⟨u0, h0, h1⟩ := z1x (zdo hC (F := fun u => some (bif shuts E o.dst then u.shut else u)) (G := some) (K := fun u => some (bif shuts E o.dst then u.shut else u)) (fun _ => rfl)) h
  have hd : Does P X s a o u0 := by
    refine zk4 hr hC hf (zk3 hr asv) (fun hent => ?_) (by rw [List.map_map]; exact h0)
    rw [z1kt hent ho]
    congr 2
    apply Array.toList_inj.1
    simp [Function.comp_def]
  cases hs : shuts E o.dst with
  | false => rw [hs] at h1; cases h1; exact hd
  | true => rw [hs] at h1; cases h1; exact hd.shut
theorem z1xq {f : FuncId} (h : Ent P f) {x : Operand} {v : Value} {asv : Array Operand} {ts : Array TypeId} (ho : o.op = .call ⟨.value x, asv, ts⟩) (hx : a.eval x = .func (.func f) #[] #[v]) (w : World) : (execOp a.eval o).run P w = .ok (.enter f (asv.map a.eval ++ #[v])) w := by
  obtain ⟨fn, c, h1, h2, h3⟩ := h
  simp [execOp, ho, resolve, Deferred.ofValue, hx, invoke, callFunc, h1, h3]
  simpa using h2
theorem z1wk {f : FuncId} (h : Ent P f) {x : Operand} {v v2 : Value} {asv : Array Operand} {ts : Array TypeId} (ho : o.op = .call ⟨.value x, asv, ts⟩) (hx : a.eval x = .func (.func f) #[] #[v, v2]) (w : World) : (execOp a.eval o).run P w = .ok (.enter f (asv.map a.eval ++ #[v, v2])) w := by
  obtain ⟨fn, c, h1, h2, h3⟩ := h
  simp [execOp, ho, resolve, Deferred.ofValue, hx, invoke, callFunc, h1, h3]
  simpa using h2
theorem z1ge (hr : Rel X s a) {C : Funs} (hC : C.Nat) (hf : ∀ f, Owes P C f) {ops : List Oper} {y : Nat} {asv : Array Operand} {ts : Array TypeId} (ho : o.op = .call ⟨.value (.tmp y), asv, ts⟩) (h : act E (C Out) ops o s some = some u) : Does P X s a o u := by
  unfold act at h
  simp only [ho] at h
  split at h
  case h_3 => cases h
  case h_2 =>
    rename_i f t x1 u' y1 hxe
    have hx := hr.op1 (.tmp y)
    rw [hxe] at hx
    obtain ⟨ad, ad', cs, cs', hv, ⟨g2, g3, g4⟩, k2, k3, k4⟩ := hx
    refine zk4 hr hC (hf f) (vs := asv.toList.map (fun x => (s.op1 x, a.eval x)) ++ [(.view t x1, .pointer (some ad)), (.view u' y1, .pointer (some ad'))]) (fun x hx => ?_) (fun hent => ?_) (by rw [List.map_append, List.map_map]; exact h)
    · rcases List.mem_append.1 hx with hx | hx
      · exact zk3 hr asv x hx
      · rcases List.mem_cons.1 hx with rfl | hx
        · exact ⟨.r 0, ad, cs, rfl, g2, g3, g4⟩
        · rw [List.mem_singleton.1 hx]
          exact ⟨.r 0, ad', cs', rfl, k2, k3, k4⟩
    · rw [z1wk hent ho hv]
      congr 2
      apply Array.toList_inj.1
      simp [Function.comp_def]
  rename_i id f t b hxe
  have hx := hr.op1 (.tmp y)
  rw [hxe] at hx
  obtain ⟨r0, hβ, hv⟩ := hx
  have hv : a.eval (.tmp y) = .func (.func f) #[] #[.pointer (some ⟨r0, 0, none⟩)] := hv
  split at h
  case isTrue => cases h
  rename_i hs
  refine zk4 hr hC (hf f) (vs := asv.toList.map (fun x => (s.op1 x, a.eval x)) ++ [(.ptr id t [], .pointer (some ⟨r0, 0, none⟩))]) (fun x hx => ?_) (fun hent => ?_) (by rw [List.map_append, List.map_map]; exact h)
  · rcases List.mem_append.1 hx with hx | hx
    · exact zk3 hr asv x hx
    · rw [List.mem_singleton.1 hx]
      exact ⟨.r 0, r0, hβ, (zcb (by simpa using hs)).2 ⟨by simp [Ty.off], by simp [Ty.inb]⟩⟩
  · rw [z1xq hent ho hv]
    congr 2
    apply Array.toList_inj.1
    simp [Function.comp_def]
end Go.Ref
namespace Go.Ref
open Go
variable {P : Program} {E : Env} {X : Cfg} {s : State} {a : Act} {o : Oper} {u : Out}
theorem z1v7 (hE : EnvOk P E) (hr : Rel X s a) {C : Funs} (hC : C.Nat) (hf : ∀ f, Owes P C f) {ops : List Oper} (h : act E (C Out) ops o s some = some u) : Does P X s a o u := by
  cases ho : o.op with
  | move x => exact (z1k3 hr ho h).does
  | assign x => exact (z1ef hr ho h).does
  | pick c x y => exact (z1is hr ho h).does
  | binOp op T x y T' => exact (z1u6 hE hr ho h).does
  | unOp op T x => exact (z1xn hr ho h).does
  | convert S T x => exact (z1s9 hE hr ho h).does
  | load T x => exact (z1ro hE hr ho h).does
  | store T x y => exact (z1h9 hE hr ho h).does
  | nilCheck x => exact (z15v hr ho h).does
  | fieldAddr T x j => exact (z12k hE hr ho h).does
  | indexAddr T x i => exact (z126 hE hr ho h).does
  | index T x i => exact (z1hi hE hr ho h).does
  | field T x j => exact (z1fz hE hr ho h).does
  | slice T x lo hi mx =>
    cases mx with
    | none => exact (z1tq hE hr ho h).does
    | some m => unfold act at h; simp only [ho] at h; cases h
  | alloc T => exact (z1g9 hE hr ho h).does
  | box T x => exact (z1uf hE hr ho h).does
  | build T parts => exact (z1g8 hE hr ho h).does
  | buildSlice T n parts => exact (z10n hE hr ho h).does
  | extract x j => exact (z16r hr ho h).does
  | makeMap T r => exact (z19j hE hr ho h).does
  | lookup T x i ok => exact (z1e8 hE hr ho h).does
  | mapUpdate T m k x => exact (zjp hE hr (.inl ho) h).does
  | insert T m k x => exact (zjp hE hr (.inr ho) h).does
  | range T x => exact (z1gk hE hr ho h).does
  | next x str => exact (z1k9 hr ho h).does
  | makeSlice T l c => exact (z12j hE hr ho h).does
  | makeFunc fn fi ca => exact (z15u hr ho h).does
  | call c =>
    obtain ⟨callee, args, ts⟩ := c
    cases callee with
    | value x =>
      cases x with
      | func f => exact z1r5 hr hC (hf f) ho h
      | tmp y => exact z1ge hr hC hf ho h
      | _ => unfold act at h; simp only [ho] at h; cases h
    | builtin b =>
      cases b with
      | len => exact (z1v9 (x := .const Go.undef) (T := 0) hE hr ho h).does
      | append => exact (z1e5 hE hr ho h).does
      | copy => exact (z1l3 hE hr ho h).does
      | max => exact (z15o (g := true) hr ho h).does
      | min => exact (z15o (g := false) hr ho h).does
      | _ => unfold act at h; simp only [ho] at h; cases h
    | _ => unfold act at h; simp only [ho] at h; cases h
  | _ => unfold act at h; simp only [ho] at h; cases h
theorem Rel.know (hr : Rel X s a) {d : Nat} {p : Bool} {o : List (List Nat)} (h : s.slot d = [.dat .bool p o]) : Rel X (s.putSlot (some d) (bl p)) a ∧ a.tmps[d]? = some (.bool p) := by
  have hd : d < s.sl.length := by
    rcases Nat.lt_or_ge d s.sl.length with h1 | h1
    · exact h1
    · simp [State.slot, List.getElem?_eq_none h1] at h
  have hd2 : d < a.tmps.size := by rw [← hr.size]; exact hd
  have hv : a.tmps[d]? = some (a.tmps.getD d Go.undef) := by simp [Array.getElem?_eq_getElem hd2]
  have hs := hr.slot d
  rw [h] at hs
  have hb := z3s (X := X) hs
  rw [hb] at hv
  refine ⟨?_, hv⟩
  have hput : a.put (some d) (.bool p) = a := by
    cases a with
    | mk tmps defers =>
      simp only [Act.put, Act.mk.injEq, and_true]
      apply Array.ext_getElem?
      intro i
      rw [Array.getElem?_setIfInBounds]
      split
      · rename_i e
        subst e
        first
          | exact hv.symm
          | (rw [if_pos hd2]; exact hv.symm)
      · rfl
  have := hr.put (d := some d) (l := bl p) (v := .bool p) (fun _ _ => z1f) (fun id t q hm => by simp [bl] at hm)
  rw [hput] at this
  exact this
theorem z1f8 (hE : EnvOk P E) (hr : Rel X s a) {C : Funs} (hC : C.Nat) (hf : ∀ f, Owes P C f) {ops : Array Oper} {i : Nat} (hi : ops[i]? = some o) {s' : State} (h : step E (C State) ops.toList o s some = some s') {Q : Exit → Act → World → Prop} {K : Act → World → Prop}
    (hK : ∀ Y a', Ext X Y → Rel Y s' a' → K a' Y.w) : wpOp P ops Q i K a X.w := by
  unfold wpOp
  simp only [hi]
  have hgo : ∀ {s1 : State}, Rel X s1 a → (act E (C State) ops.toList o s1 fun u => some (s1.apply o.dst u)) = some s' → o.wp P a X.w K Q := by
    intro s1 hr1 h1
    obtain ⟨u, hu, h2⟩ := z1x (z4t hC (F := fun u => some (s1.apply o.dst u)) (G := some) (K := fun u => some (s1.apply o.dst u)) (fun _ => rfl)) h1
    cases h2
    exact z1v7 hE hr1 hC hf hu K Q (fun Y v hext hrel => hK Y _ hext hrel)
  have hpass : ∀ {s1 : State}, Rel X s1 a → some (s1.putSlot o.dst [.skip]) = some s' → K (a.put o.dst Go.undef) X.w := by
    intro s1 hr1 h1
    cases h1
    exact hK X _ (Ext.refl X) (hr1.skip o.dst)
  unfold step at h
  simp only at h
  split at h
  · rename_i hg
    have hw : Region.wanted o (yielded ops a.tmps) = true := by simp [Region.wanted, hg]
    rw [if_pos hw]
    exact .inl (hgo hr h)
  · rename_i g want hg
    split at h
    · cases h
    rename_i d hd
    have hd' : (ops[g]?).bind (·.dst) = some d := by simpa [zfr] using hd
    split at h
    · rename_i p hs
      obtain ⟨hr1, hv⟩ := hr.know hs
      have hy : yielded ops a.tmps g = some p := by simp [yielded, hd', hv]
      have hw : Region.wanted o (yielded ops a.tmps) = (p == want) := by simp [Region.wanted, hg, hy]
      cases p <;> cases want <;> simp only [cond_true, cond_false] at h <;> rw [hw]
      · exact .inl (hgo hr1 h)
      · exact hpass hr1 h
      · exact hpass hr1 h
      · exact .inl (hgo hr1 h)
    · rename_i hs
      have hsl := hr.slot d
      rw [hs] at hsl
      have hval : a.tmps.getD d Go.undef = Go.undef := hsl
      have hy : yielded ops a.tmps g = none := by
        simp only [yielded, hd', Option.bind_some]
        cases ht : a.tmps[d]? with
        | none => rfl
        | some v =>
          have : v = Go.undef := by
            rw [← hval]
            simp [Array.getD_eq_getD_getElem?, ht]
          subst this
          rfl
      have hw : Region.wanted o (yielded ops a.tmps) = false := by simp [Region.wanted, hg, hy]
      rw [hw]
      exact hpass hr h
    · cases h
theorem z197 (hE : EnvOk P E) {C : Funs} (hC : C.Nat) (hf : ∀ f, Owes P C f) {ops : Array Oper} {s' : State} {Q : Exit → Act → World → Prop} : ∀ (l : List Nat) (X : Cfg) (s : State) (a : Act), Rel X s a → (∀ i ∈ l, i < ops.size) →
    steps E (C State) ops.toList (l.map fun i => ops.getD i default) s some = some s' → (∀ Y a', Ext X Y → Rel Y s' a' → Q .normal a' Y.w) → wpOps P ops Q l a X.w
  | [], X, s, a, hr, _, h, hQ => by
    cases h
    exact hQ X a (Ext.refl X) hr
  | i :: r, X, s, a, hr, hl, h, hQ => by
    simp only [List.map_cons, steps] at h
    obtain ⟨s1, h1, h2⟩ := z1x (z186 hC (F := fun s => steps E (C State) ops.toList (r.map fun i => ops.getD i default) s some) (G := some) (K := fun s => steps E (C State) ops.toList (r.map fun i => ops.getD i default) s some) (fun _ => rfl)) h
    have hi : ops[i]? = some (ops.getD i default) := by
      have := hl i (by simp)
      simp [this]
    rw [wpOps_cons]
    refine z1f8 hE hr hC hf hi h1 fun Y a' hext hrel => ?_
    exact z197 hE hC hf r Y s1 a' hrel (fun j hj => hl j (List.mem_cons_of_mem _ hj)) h2 fun Z a2 hext2 hrel2 => hQ Z a2 (hext.trans hext2) hrel2
end Go.Ref
namespace Go.Ref
open Go
variable {P : Program} {E : Env} {X : Cfg} {s : State} {a : Act} {o : Oper} {u : Out}
theorem zyb (i j : Nat) : (bit i).testBit j = decide (i = j) := by
  simp [bit, Nat.shiftLeft_eq, Nat.testBit_two_pow]
theorem z3b : ∀ (l : List Nat) (j : Nat), (maskL l).testBit j = decide (j ∈ l)
  | [], j => by simp [maskL]
  | i :: r, j => by
    rw [maskL, Nat.testBit_or, zyb, z3b r j]
    by_cases h : i = j
    · subst h; simp
    · have h' : ¬ j = i := fun e => h e.symm
      simp [h, h']
theorem zjr {a b : Nat} (h : Nat.beq (a &&& b) 0 = true) (j : Nat) : a.testBit j = true → b.testBit j = false := by
  intro ha
  have h0 := Nat.eq_of_beq_eq_true h
  have := congrArg (fun n => Nat.testBit n j) h0
  simp only [Nat.testBit_and, Nat.zero_testBit, ha, Bool.true_and] at this
  exact this
theorem zjv : ∀ (l : List Edge) (j : Nat), (z1a l).testBit j = true → ∃ e ∈ l, Region.binds .any e = true ∧ e.on = j
  | [], j, h => by simp [z1a] at h
  | e :: r, j, h => by
    simp only [z1a] at h
    cases hb : Region.binds .any e with
    | false =>
      rw [hb] at h
      obtain ⟨e', h1, h2⟩ := zjv r j h
      exact ⟨e', List.mem_cons_of_mem _ h1, h2⟩
    | true =>
      rw [hb] at h
      simp only [cond_true, Nat.testBit_or, zyb, Bool.or_eq_true, decide_eq_true_eq] at h
      rcases h with h | h
      · exact ⟨e, by simp, hb, h⟩
      · obtain ⟨e', h1, h2⟩ := zjv r j h
        exact ⟨e', List.mem_cons_of_mem _ h1, h2⟩
theorem z13c : ∀ (l : List Edge) (e : Edge), e ∈ l → Region.binds .any e = true → (z1a l).testBit e.on = true
  | e' :: r, e, h, hb => by
    simp only [z1a]
    rcases List.mem_cons.1 h with rfl | h
    · rw [hb]; simp [Nat.testBit_or, zyb]
    · have := z13c r e h hb
      cases Region.binds .any e' <;> simp [Nat.testBit_or, this]
theorem z1i5 {m i j : Nat} (h : Nat.ble (m + 1) (bit i) = true) (hj : m.testBit j = true) : j < i := by
  have h1 : m < 2 ^ i := by
    have := Nat.le_of_ble_eq_true h
    simp only [bit, Nat.shiftLeft_eq, Nat.one_mul] at this
    omega
  rcases Nat.lt_or_ge j i with h2 | h2
  · exact h2
  · have h3 : m < 2 ^ j := Nat.lt_of_lt_of_le h1 (Nat.pow_le_pow_right (by omega) h2)
    rw [Nat.testBit_lt_two_pow h3] at hj
    cases hj
def outOf (E : Env) (C : Funs) (ops : List Oper) (o : Oper) (s : State) : Option Out :=
  match o.guard with
  | none => act E (C Out) ops o s some
  | some (g, want) => match zfr ops g with
    | none => none
    | some d => match s.slot d with
      | [.dat .bool p []] => if p = want then act E (C Out) ops o s some else some { v := [.skip] }
      | [.skip] => some { v := [.skip] }
      | _ => none
theorem z7p {d : Nat} {l : List SV} (h : s.slot d = l) : s.putSlot (some d) l = s := by
  cases s with
  | mk sl bs =>
    simp only [State.putSlot, State.mk.injEq, and_true]
    simp only [State.slot] at h
    apply List.ext_getElem?
    intro i
    rw [List.getElem?_set]
    split
    · rename_i e
      subst e
      split
      · rename_i hlt
        rw [List.getD_eq_getElem?_getD, List.getElem?_eq_getElem hlt] at h
        rw [List.getElem?_eq_getElem hlt]
        simpa using h.symm
      · rename_i hlt
        rw [List.getElem?_eq_none (by omega)]
    · rfl
theorem z1n0 {C : Funs} (hC : C.Nat) {R : Type} {ops : List Oper} {i : Nat} {tr : List Foot} {K : State → List Foot → Option R} {z : R} (h : stepD E (C R) ops o i s tr K = some z) :
    ∃ u, outOf E C ops o s = some u ∧ fits (z1a o.after.toList) (z12 ops o i s u) tr = true ∧ K (s.apply o.dst u) (z12 ops o i s u :: tr) = some z := by
  have hgo : (act E (C R) ops o s fun u => bif fits (z1a o.after.toList) (z12 ops o i s u) tr then K (s.apply o.dst u) (z12 ops o i s u :: tr) else none) = some z →
      ∃ u, act E (C Out) ops o s some = some u ∧ fits (z1a o.after.toList) (z12 ops o i s u) tr = true ∧ K (s.apply o.dst u) (z12 ops o i s u :: tr) = some z := by
    intro h
    obtain ⟨u, h1, h2⟩ := z1x (z4t hC (F := fun u => bif fits (z1a o.after.toList) (z12 ops o i s u) tr then K (s.apply o.dst u) (z12 ops o i s u :: tr) else none) (G := some) (K := fun u => bif fits (z1a o.after.toList) (z12 ops o i s u) tr then K (s.apply o.dst u) (z12 ops o i s u :: tr) else none) (fun _ => rfl)) h
    cases hf : fits (z1a o.after.toList) (z12 ops o i s u) tr with
    | false => rw [hf] at h2; cases h2
    | true => rw [hf] at h2; exact ⟨u, h1, hf, h2⟩
  have hpass : (bif fits (z1a o.after.toList) (z12 ops o i s { v := [.skip] }) tr then K (s.apply o.dst { v := [.skip] }) (z12 ops o i s { v := [.skip] } :: tr) else none) = some z →
      fits (z1a o.after.toList) (z12 ops o i s { v := [.skip] }) tr = true ∧ K (s.apply o.dst { v := [.skip] }) (z12 ops o i s { v := [.skip] } :: tr) = some z := by
    intro h
    cases hf : fits (z1a o.after.toList) (z12 ops o i s { v := [.skip] }) tr with
    | false => rw [hf] at h; cases h
    | true => rw [hf] at h; exact ⟨rfl, h⟩
  unfold stepD at h
  unfold outOf
  simp only at h
  split at h
  · rename_i hg
    try simp only [hg]
    exact hgo h
  · rename_i g want hg
    try simp only [hg]
    split at h
    · cases h
    rename_i d hd
    try simp only [hd]
    split at h
    · rename_i p hs
      have hs' : s.slot d = bl p := hs
      try simp only [hs]
      cases p <;> cases want <;> simp only [cond_true, cond_false] at h
      · rw [z7p hs'] at h; rw [if_pos rfl]; exact hgo h
      · rw [z7p hs'] at h; rw [if_neg (by simp)]; exact ⟨_, rfl, hpass h⟩
      · rw [z7p hs'] at h; rw [if_neg (by simp)]; exact ⟨_, rfl, hpass h⟩
      · rw [z7p hs'] at h; rw [if_pos rfl]; exact hgo h
    · rename_i hs
      try simp only [hs]
      exact ⟨_, rfl, hpass h⟩
    · cases h
theorem z1e6 {C : Funs} (hC : C.Nat) {ops : List Oper} (h : outOf E C ops o s = some u) : step E (C State) ops o s some = some (s.apply o.dst u) := by
  have hgo : act E (C Out) ops o s some = some u → (act E (C State) ops o s fun u => some (s.apply o.dst u)) = some (s.apply o.dst u) := by
    intro h
    rw [z4t hC (F := fun u => some (s.apply o.dst u)) (G := some) (K := fun u => some (s.apply o.dst u)) (fun _ => rfl), h]
    rfl
  unfold outOf at h
  unfold step
  simp only
  split at h
  · rename_i hg
    try simp only [hg]
    exact hgo h
  · rename_i g want hg
    try simp only [hg]
    split at h
    · cases h
    rename_i d hd
    try simp only [hd]
    split at h
    · rename_i p hs
      have hs' : s.slot d = bl p := hs
      try simp only [hs]
      split at h
      · rename_i e
        subst e
        cases p <;> simp only [cond_true, cond_false] <;> rw [z7p hs'] <;> exact hgo h
      · rename_i e
        cases h
        cases p <;> cases want <;> simp only [cond_true, cond_false] <;> first | exact absurd rfl e | (rw [z7p hs']; rfl)
    · rename_i hs
      try simp only [hs]
      cases h
      rfl
    · cases h
structure Agree (ts bs : List Nat) (s s' : State) : Prop where
  sl : ∀ t ∈ ts, s.slot t = s'.slot t
  bs : ∀ id ∈ bs, s.bs[id]? = s'.bs[id]?
theorem z1w3 {l : List Operand} {t : Nat} : Operand.tmp t ∈ l → t ∈ z3k l := by
  induction l with
  | nil => intro h; cases h
  | cons x r ih =>
    intro h
    rcases List.mem_cons.1 h with e | h
    · subst e; simp [z3k]
    · have := ih h
      cases x <;> simp [z3k, this]
theorem zks {s s' : State} {ts : List Nat} (h : ∀ t ∈ ts, s.slot t = s'.slot t) {l : List Operand} (hl : ∀ t ∈ z3k l, t ∈ ts) {x : Operand} (hx : x ∈ l) : s.op1 x = s'.op1 x := by
  cases x with
  | tmp t => simp only [State.op1, State.opd, h t (hl t (z1w3 hx))]
  | _ => rfl
theorem z1fx (j : Nat) : shutAt [SV.undef] j = [SV.undef] := by
  cases j <;> rfl
theorem zdu {s : State} {i j t : Nat} : (s.close1 i j).slot t = if t = i then shutAt (s.slot t) j else s.slot t := by
  simp only [State.close1, State.slot, List.getD_eq_getElem?_getD, List.getElem?_set]
  by_cases e : t = i
  · subst e
    rw [if_pos rfl, if_pos rfl]
    by_cases hlt : t < s.sl.length
    · rw [if_pos hlt]; rfl
    · rw [if_neg hlt, List.getElem?_eq_none (by omega)]
      simp [z1fx]
  · rw [if_neg e, if_neg (fun h => e h.symm)]
theorem zxm {t : Nat} : ∀ {c : List (Nat × Nat)} {s s' : State}, s.slot t = s'.slot t → (s.close c).slot t = (s'.close c).slot t
  | [], s, s', h => h
  | (i, j) :: r, s, s', h => by
    rw [z4n, z4n]
    refine zxm (c := r) ?_
    rw [zdu, zdu, h]
theorem zwn {ts : List Nat} : ∀ {l : List (Nat × Operand)} {s s' : State}, (∀ t ∈ ts, s.slot t = s'.slot t) → (∀ t ∈ z3k (l.map (·.2)), t ∈ ts) → z1t s l = z1t s' l
  | [], s, s', h, hl => rfl
  | (i, x) :: r, s, s', h, hl => by
    have hx : s.op1 x = s'.op1 x := zks h hl (by simp)
    have hr : ∀ c : List (Nat × Nat), z1t (s.close c) r = z1t (s'.close c) r := fun c => zwn (fun t ht => zxm (h t ht)) (fun t ht => hl t (by
      cases x <;> simp [z3k, ht]))
    simp only [z1t, hx, hr]
theorem z9b {s s' : State} : ∀ {l : List SV}, (∀ id ∈ l.flatMap ptrOf, s.box id = s'.box id) → z26 s l = z26 s' l
  | [], h => rfl
  | v :: r, h => by
    have hr : z26 s r = z26 s' r := z9b fun id hid => h id (by simp only [List.flatMap_cons, List.mem_append]; exact .inr hid)
    simp only [z26, hr]
    split
    · rfl
    · rename_i l b _
      cases v with
      | ptr id t p =>
        have hb : s.box id = s'.box id := h id (by simp [ptrOf])
        cases p with
        | nil => cases b <;> simp only [hb]
        | cons _ _ => rfl
      | _ => rfl
theorem z1s0 {C : FuncId → Fun' Out} {ops : List Oper} {s s' : State} (h : Agree (looks ops o) (z11 s o) s s') : act E C ops o s some = act E C ops o s' some := by
  have hsl : ∀ t ∈ z3k o.op.operands.toList, s.slot t = s'.slot t := fun t ht => h.sl t (by simp only [looks, List.mem_append]; exact .inl ht)
  have hop : ∀ x ∈ o.op.operands.toList, s.op1 x = s'.op1 x := fun x hx => zks hsl (fun _ ht => ht) hx
  have hbox : ∀ id ∈ z11 s o, s.box id = s'.box id := fun id hid => by
    simp only [State.box, List.getD_eq_getElem?_getD, h.bs id hid]
  unfold act
  cases ho : o.op with
  | move x =>
    have ht : tupOf s x = tupOf s' x := by
      cases x with
      | tmp t =>
        have : s.slot t = s'.slot t := hsl t (by simp [ho, Op.operands, z3k])
        simp only [tupOf, this]
      | _ => rfl
    simp only; rw [hop x (by simp [ho, Op.operands]), ht]
  | assign x => simp only; rw [hop x (by simp [ho, Op.operands])]
  | pick c x y => simp only; rw [hop c (by simp [ho, Op.operands]), hop x (by simp [ho, Op.operands]), hop y (by simp [ho, Op.operands])]
  | binOp op T x y T' => simp only; rw [hop x (by simp [ho, Op.operands]), hop y (by simp [ho, Op.operands])]
  | unOp op T x => simp only; rw [hop x (by simp [ho, Op.operands])]
  | convert S T x =>
    have hx := hop x (by simp [ho, Op.operands])
    simp only
    rw [← hx]
    split
    · rename_i id n ta tb e
      simp only [convH, hbox id (by simp [z11, ho, e, ptrOf])]
    · rfl
  | makeMap T r =>
    cases r with
    | some r => rfl
    | none =>
      simp only
      cases hd : o.dst with
      | none => rfl
      | some d =>
        have := h.bs (d + 1) (by simp [z11, ho, hd])
        simp only [newV, this]
  | lookup T x i ok =>
    cases ok with
    | true => rfl
    | false =>
      simp only
      rw [← hop x (by simp [ho, Op.operands]), ← hop i (by simp [ho, Op.operands])]
      unfold lookV z5s
      split
      · split
        · rename_i e
          simp only [hbox _ (by simp only [z11, ho, e, ptrOf]; exact List.mem_singleton.2 rfl)]
        · rfl
      · rfl
  | mapUpdate T m k x =>
    simp only
    rw [← hop m (by simp [ho, Op.operands]), ← hop k (by simp [ho, Op.operands]), ← hop x (by simp [ho, Op.operands])]
    unfold updV z5s
    split
    · split
      · rename_i e
        simp only [hbox _ (by simp only [z11, ho, e, ptrOf]; exact List.mem_singleton.2 rfl)]
      · rfl
    · rfl
  | insert T m k x =>
    simp only
    rw [← hop m (by simp [ho, Op.operands]), ← hop k (by simp [ho, Op.operands]), ← hop x (by simp [ho, Op.operands])]
    unfold updV z5s
    split
    · split
      · rename_i e
        simp only [hbox _ (by simp only [z11, ho, e, ptrOf]; exact List.mem_singleton.2 rfl)]
      · rfl
    · rfl
  | range T x =>
    simp only
    rw [← hop x (by simp [ho, Op.operands])]
    cases hd : o.dst with
    | none => rfl
    | some d =>
      have := h.bs (d + 1) (by simp [z11, ho, hd])
      simp only [newV, this]
  | next x str =>
    cases str with
    | false => rfl
    | true =>
      simp only
      rw [← hop x (by simp [ho, Op.operands])]
      unfold nextV
      split
      · rename_i e
        simp only [hbox _ (by simp only [z11, ho, e, ptrOf]; exact List.mem_singleton.2 rfl)]
      · rfl
  | makeSlice T l c =>
    simp only
    rw [← hop l (by simp [ho, Op.operands]), ← hop c (by simp [ho, Op.operands])]
    cases hd : o.dst with
    | none => rfl
    | some d =>
      have := h.bs (d + 1) (by simp [z11, ho, hd])
      simp only [makeV, newV, this]
  | load T x =>
    have hx := hop x (by simp [ho, Op.operands])
    simp only
    rw [← hx]
    unfold load
    split
    · split
      · rfl
      · rename_i id t p e
        simp only [z8t, hbox id (by simp [z11, ho, e, ptrOf])]
      · rfl
    · rfl
  | store T x y =>
    have hx := hop x (by simp [ho, Op.operands])
    have hy := hop y (by simp [ho, Op.operands])
    simp only
    rw [← hx]
    unfold store
    rw [← hy]
    split
    · split
      · rename_i id t p e
        simp only [z5u, hbox id (by simp [z11, ho, e, ptrOf])]
      · rfl
    · rfl
  | nilCheck x => simp only; rw [hop x (by simp [ho, Op.operands])]
  | fieldAddr T x j => simp only; rw [hop x (by simp [ho, Op.operands])]
  | indexAddr T x i => simp only; rw [hop x (by simp [ho, Op.operands]), hop i (by simp [ho, Op.operands])]
  | index T x i => simp only; rw [hop x (by simp [ho, Op.operands]), hop i (by simp [ho, Op.operands])]
  | field T x j => simp only; rw [hop x (by simp [ho, Op.operands])]
  | slice T x lo hi mx =>
    cases mx with
    | none =>
      simp only
      have hlo : lo.map s.op1 = lo.map s'.op1 := by
        cases lo with
        | none => rfl
        | some l => simp only [Option.map_some, hop l (by simp [ho, Op.operands])]
      have hhi : hi.map s.op1 = hi.map s'.op1 := by
        cases hi with
        | none => rfl
        | some l => simp only [Option.map_some, hop l (by simp [ho, Op.operands])]
      rw [← hop x (by simp [ho, Op.operands]), hlo, hhi]
      split
      · rfl
      · rename_i id n t e
        simp only [cutA, hbox id (by simp [z11, ho, e, ptrOf])]
      · rfl
    | some m => rfl
  | makeFunc fn fi ca =>
    cases fn with
    | func f =>
      simp only
      split
      · rename_i x e1 e2
        have hm : x ∈ o.op.operands.toList := by
          simp only [ho, Op.operands, Array.toList_append, List.mem_append, e2]
          exact .inr (by simp)
        rw [hop x hm]
      · rename_i x y e1 e2
        have hm : ∀ z ∈ [x, y], z ∈ o.op.operands.toList := fun z hz => by
          simp only [ho, Op.operands, Array.toList_append, List.mem_append, e2]
          exact .inr hz
        rw [hop x (hm x (by simp)), hop y (hm y (by simp))]
      · rfl
    | _ => rfl
  | alloc T =>
    simp only
    cases hd : o.dst with
    | none => split <;> simp_all
    | some d =>
      have := h.bs (d + 1) (by simp [z11, ho, hd])
      cases E.ty T <;> simp only [this]
  | box T x =>
    have hx := hop x (by simp [ho, Op.operands])
    simp only
    cases hd : o.dst with
    | none => split <;> simp_all
    | some d =>
      have := h.bs (d + 1) (by simp [z11, ho, hd])
      cases E.ty T <;> simp only [this, hx]
  | build T parts =>
    have hp : z1t s parts.toList = z1t s' parts.toList := zwn hsl (fun t ht => by simpa [ho, Op.operands] using ht)
    simp only [hp]
  | buildSlice T n parts =>
    have hp : (parts.toList.map fun p => (p.1, s.op1 p.2)) = parts.toList.map fun p => (p.1, s'.op1 p.2) := List.map_congr_left fun p hp => by
      rw [hop p.2 (by
        simp only [ho, Op.operands]
        exact List.mem_map.2 ⟨p, hp, rfl⟩)]
    simp only [hp]
  | extract x j =>
    cases x with
    | tmp t =>
      have : s.slot t = s'.slot t := hsl t (by simp [ho, Op.operands, z3k])
      simp only [this]
    | _ => rfl
  | call c =>
    obtain ⟨callee, args, ts⟩ := c
    cases callee with
    | value x =>
      cases x with
      | func f =>
        have hargs : args.toList.map s.op1 = args.toList.map s'.op1 := List.map_congr_left fun x hx => hop x (by
          simp only [ho, Op.operands, Call.operands, Array.toList_append, List.mem_append]
          exact .inr hx)
        have hbs : z26 s (args.toList.map s'.op1) = z26 s' (args.toList.map s'.op1) := z9b fun id hid => hbox id (by
          simp only [z11, ho, List.mem_append]
          refine .inl ?_
          rw [← hargs, List.flatMap_map] at hid
          exact hid)
        simp only [callV, hargs, hbs]
        cases hd : o.dst with
        | none => rfl
        | some d =>
          have := h.bs (d + 1) (by simp [z11, ho, hd])
          simp only [this]
      | tmp y =>
        have hy : s.op1 (.tmp y) = s'.op1 (.tmp y) := hop (.tmp y) (by
          simp only [ho, Op.operands, Call.operands, Array.toList_append, List.mem_append]
          exact .inl (by simp))
        have hargs : args.toList.map s.op1 = args.toList.map s'.op1 := List.map_congr_left fun x hx => hop x (by
          simp only [ho, Op.operands, Call.operands, Array.toList_append, List.mem_append]
          exact .inr hx)
        simp only
        rw [← hy]
        split
        · rename_i id f t b e
          have hbs : z26 s (args.toList.map s'.op1 ++ [.ptr id t []]) = z26 s' (args.toList.map s'.op1 ++ [.ptr id t []]) := z9b fun id' hid => hbox id' (by
            simp only [z11, ho, List.mem_append, e]
            rw [List.flatMap_append, List.mem_append] at hid
            rcases hid with hid | hid
            · refine .inl ?_
              rw [← hargs, List.flatMap_map] at hid
              exact hid
            · exact .inr (.inl (by simpa [ptrOf] using hid)))
          simp only [callV, hargs, hbs]
          cases hd : o.dst with
          | none => rfl
          | some d =>
            have := h.bs (d + 1) (by simp [z11, ho, hd])
            simp only [this]
        · rename_i f t x u y e
          have hbs : z26 s (args.toList.map s'.op1 ++ [.view t x, .view u y]) = z26 s' (args.toList.map s'.op1 ++ [.view t x, .view u y]) := z9b fun id' hid => hbox id' (by
            simp only [z11, ho, List.mem_append]
            rw [List.flatMap_append, List.mem_append] at hid
            rcases hid with hid | hid
            · refine .inl ?_
              rw [← hargs, List.flatMap_map] at hid
              exact hid
            · simp [ptrOf] at hid)
          simp only [callV, hargs, hbs]
          cases hd : o.dst with
          | none => rfl
          | some d =>
            have := h.bs (d + 1) (by simp [z11, ho, hd])
            simp only [this]
        · rfl
      | _ => rfl
    | builtin b =>
      have hargs : ∀ x ∈ args.toList, s.op1 x = s'.op1 x := fun x hx => hop x (by
          simp only [ho, Op.operands, Call.operands, Array.toList_append, List.mem_append]
          exact .inr hx)
      cases b with
      | copy =>
        simp only
        split
        · rename_i d x T r e1 e2
          rw [hargs x (by rw [e1]; simp), ← hargs d (by rw [e1]; simp)]
          unfold copyV
          split
          · rename_i e0 t0 id n ta tb hT e
            have hb : s.box id = s'.box id := hbox id (by simp only [z11, ho, e1, List.flatMap_cons, e, ptrOf]; exact List.mem_append_left _ (List.mem_singleton.2 rfl))
            simp only [copyH, copyS, hb]
          · rename_i e0 t0 id n ta tb l hT e
            have hb : s.box id = s'.box id := hbox id (by simp only [z11, ho, e1, List.flatMap_cons, e, ptrOf]; exact List.mem_append_left _ (List.mem_singleton.2 rfl))
            simp only [copyH, hb]
          · rfl
        · rfl
      | len =>
        simp only
        split
        · rename_i x T e1 e2
          rw [hargs x (by rw [e1]; simp)]
        · rfl
      | append =>
        simp only
        split
        · rename_i x y T U e1 e2
          rw [hargs x (by rw [e1]; simp), hargs y (by rw [e1]; simp)]
        · rfl
      | max =>
        simp only
        split
        · rename_i x y e1
          rw [hargs x (by rw [e1]; simp), hargs y (by rw [e1]; simp)]
        · rfl
      | min =>
        simp only
        split
        · rename_i x y e1
          rw [hargs x (by rw [e1]; simp), hargs y (by rw [e1]; simp)]
        · rfl
      | _ => rfl
    | _ => rfl
  | _ => rfl
end Go.Ref
namespace Go.Ref
open Go
variable {P : Program} {E : Env} {X : Cfg} {s : State} {a : Act} {o : Oper} {u : Out}
def zn4 : List (Nat × Nat) → Nat → List SV → List SV
  | [], _, l => l
  | (i, j) :: r, t, l => zn4 r t (if t = i then shutAt l j else l)
theorem z9c {t : Nat} : ∀ {c : List (Nat × Nat)} {s : State}, (s.close c).slot t = zn4 c t (s.slot t)
  | [], s => rfl
  | (i, j) :: r, s => by rw [z4n, z9c (c := r), zdu]; rfl
theorem z1h {t : Nat} : ∀ {c : List (Nat × Nat)} {l : List SV}, t ∉ c.map (·.1) → zn4 c t l = l
  | [], l, h => rfl
  | (i, j) :: r, l, h => by
    simp only [List.map_cons, List.mem_cons, not_or] at h
    simp only [zn4]
    rw [if_neg h.1]
    exact z1h h.2
theorem z67 {d : Option Nat} : (s.apply d u).sl.length = s.sl.length := by
  cases d with
  | none => simp only [State.apply, State.putSlot]; cases u.bx <;> simp [State.putBox, z93]
  | some d => simp only [State.apply, State.putSlot, List.length_set]; cases u.bx <;> simp [State.putBox, z93]
theorem z71 {d : Option Nat} {t : Nat} : (s.apply d u).slot t = if d = some t ∧ t < s.sl.length then u.v else zn4 u.cl t (s.slot t) := by
  have hb : ∀ (s : State) b, (s.putBox b).slot t = s.slot t := fun s b => by cases b <;> rfl
  cases d with
  | none =>
    simp only [State.apply, State.putSlot, hb, z9c]
    rw [if_neg (by simp)]
  | some d =>
    simp only [State.apply]
    by_cases e : d = t
    · subst e
      by_cases hlt : d < s.sl.length
      · rw [if_pos ⟨rfl, hlt⟩]
        have : d < ((s.close u.cl).putBox u.bx).sl.length := by
          have : ((s.close u.cl).putBox u.bx).sl.length = s.sl.length := by cases u.bx <;> simp [State.putBox, z93]
          omega
        simp only [State.putSlot, State.slot, List.getD_eq_getElem?_getD, List.getElem?_set_self this, Option.getD_some]
      · rw [if_neg (fun h => hlt h.2)]
        have : ((s.close u.cl).putBox u.bx).sl.length ≤ d := by
          have : ((s.close u.cl).putBox u.bx).sl.length = s.sl.length := by cases u.bx <;> simp [State.putBox, z93]
          omega
        have h2 : (((s.close u.cl).putBox u.bx).putSlot (some d) u.v).slot d = ((s.close u.cl).putBox u.bx).slot d := by
          simp only [State.putSlot, State.slot]
          rw [List.set_eq_of_length_le this]
        rw [h2, hb, z9c]
    · rw [if_neg (fun h => e (by injection h.1))]
      have h2 : (((s.close u.cl).putBox u.bx).putSlot (some d) u.v).slot t = ((s.close u.cl).putBox u.bx).slot t := by
        simp only [State.putSlot, State.slot, List.getD_eq_getElem?_getD, List.getElem?_set_ne e]
      rw [h2, hb, z9c]
theorem zce {d : Option Nat} {id : Nat} : (s.apply d u).bs[id]? = match u.bx with
    | some (id', B) => if id' = id then (s.bs[id]?).map (fun _ => some B) else s.bs[id]?
    | none => s.bs[id]? := by
  have hs : ∀ (s : State) d l, (s.putSlot d l).bs = s.bs := fun s d l => by cases d <;> rfl
  simp only [State.apply, hs]
  cases hb : u.bx with
  | none => simp only [State.putBox, z3p]
  | some b =>
    obtain ⟨id', B⟩ := b
    simp only [State.putBox, z3p]
    rw [List.getElem?_set]
    by_cases e : id' = id
    · subst e
      rw [if_pos rfl, if_pos rfl]
      by_cases hlt : id' < s.bs.length
      · rw [if_pos hlt, List.getElem?_eq_getElem hlt]; rfl
      · rw [if_neg hlt, List.getElem?_eq_none (by omega)]; rfl
    · rw [if_neg e, if_neg e]
theorem z1jk {s s' : State} (h1 : s.sl.length = s'.sl.length) (h2 : ∀ t, s.slot t = s'.slot t) (h3 : ∀ id : Nat, s.bs[id]? = s'.bs[id]?) : s = s' := by
  cases s with
  | mk sl bs =>
    cases s' with
    | mk sl' bs' =>
      simp only [State.mk.injEq]
      refine ⟨List.ext_getElem? fun i => ?_, List.ext_getElem? h3⟩
      have := h2 i
      simp only [State.slot, List.getD_eq_getElem?_getD] at this h1
      by_cases hlt : i < sl.length
      · rw [List.getElem?_eq_getElem hlt, List.getElem?_eq_getElem (by omega)] at this ⊢
        simpa using this
      · rw [List.getElem?_eq_none (by omega), List.getElem?_eq_none (by omega)]
structure Parted (R1 W1 b1 c1 R2 W2 b2 c2 : List Nat) : Prop where
  h1 : ∀ t ∈ W1, t ∉ R2 ∧ t ∉ W2
  h2 : ∀ t ∈ W2, t ∉ R1
  h3 : ∀ id ∈ c1, id ∉ b2 ∧ id ∉ c2
  h4 : ∀ id ∈ c2, id ∉ b1
theorem z19u {o1 o2 : Oper} {ops : List Oper} {i1 i2 : Nat} {s1 s2 : State} {u1 u2 : Out} (h : (z12 ops o1 i1 s1 u1).apart (z12 ops o2 i2 s2 u2) = true) :
    Parted (looks ops o1) (o1.dst.toList ++ u1.cl.map (·.1)) (z11 s1 o1) (u1.bx.toList.map (·.1)) (looks ops o2) (o2.dst.toList ++ u2.cl.map (·.1)) (z11 s2 o2) (u2.bx.toList.map (·.1)) := by
  simp only [Foot.apart, z12, Bool.and_eq_true] at h
  obtain ⟨g1, g2, g3, g4⟩ := h
  refine ⟨fun t ht => ?_, fun t ht => ?_, fun t ht => ?_, fun t ht => ?_⟩
  · have := zjr g1 t (by rw [z3b]; exact decide_eq_true ht)
    simp only [Nat.testBit_or, z3b, Bool.or_eq_false_iff, decide_eq_false_iff_not] at this
    exact this
  · have := zjr g2 t (by rw [z3b]; exact decide_eq_true ht)
    simpa only [z3b, decide_eq_false_iff_not] using this
  · have := zjr g3 t (by rw [z3b]; exact decide_eq_true ht)
    simp only [Nat.testBit_or, z3b, Bool.or_eq_false_iff, decide_eq_false_iff_not] at this
    exact this
  · have := zjr g4 t (by rw [z3b]; exact decide_eq_true ht)
    simpa only [z3b, decide_eq_false_iff_not] using this
theorem zx6 {d : Option Nat} {ts bs : List Nat} (h1 : ∀ t ∈ ts, t ∉ d.toList ++ u.cl.map (·.1)) (h2 : ∀ id ∈ bs, id ∉ u.bx.toList.map (·.1)) : Agree ts bs (s.apply d u) s where
  sl := fun t ht => by
    have h := h1 t ht
    simp only [List.mem_append, not_or] at h
    rw [z71, if_neg (fun hc => h.1 (by rw [hc.1]; simp)), z1h h.2]
  bs := fun id hid => by
    have h := h2 id hid
    rw [zce]
    cases hb : u.bx with
    | none => rfl
    | some b =>
      obtain ⟨id', B⟩ := b
      rw [hb] at h
      simp only
      rw [if_neg (fun e => h (by simp [e]))]
theorem z1hl {d1 d2 : Option Nat} {u1 u2 : Out} (h1 : ∀ t ∈ d1.toList ++ u1.cl.map (·.1), t ∉ d2.toList ++ u2.cl.map (·.1)) (h2 : ∀ id ∈ u1.bx.toList.map (·.1), id ∉ u2.bx.toList.map (·.1)) :
    (s.apply d1 u1).apply d2 u2 = (s.apply d2 u2).apply d1 u1 := by
  refine z1jk (by rw [z67, z67, z67, z67]) (fun t => ?_) (fun id => ?_)
  · rw [z71, z71, z71, z71, z67, z67]
    by_cases hd1 : d1 = some t
    · have hm : t ∈ d1.toList ++ u1.cl.map (·.1) := by rw [hd1]; simp
      have hn := h1 t hm
      simp only [List.mem_append, not_or] at hn
      have hd2 : ¬ d2 = some t := fun e => hn.1 (by rw [e]; simp)
      by_cases hlt : t < s.sl.length
      · rw [if_neg (fun h => hd2 h.1), if_pos ⟨hd1, hlt⟩, z1h hn.2, if_pos ⟨hd1, hlt⟩]
      · rw [if_neg (fun h => hd2 h.1), if_neg (fun h => hlt h.2), if_neg (fun h => hlt h.2), if_neg (fun h => hlt h.2), z1h hn.2, z1h hn.2]
    · by_cases hd2 : d2 = some t
      · have hn : t ∉ d1.toList ++ u1.cl.map (·.1) := fun hm => h1 t hm (by rw [hd2]; simp)
        simp only [List.mem_append, not_or] at hn
        by_cases hlt : t < s.sl.length
        · rw [if_pos ⟨hd2, hlt⟩, if_neg (fun h => hd1 h.1), if_pos ⟨hd2, hlt⟩, z1h hn.2]
        · rw [if_neg (fun h => hlt h.2), if_neg (fun h => hlt h.2), if_neg (fun h => hlt h.2), if_neg (fun h => hlt h.2), z1h hn.2, z1h hn.2]
      · rw [if_neg (fun h => hd2 h.1), if_neg (fun h => hd1 h.1), if_neg (fun h => hd1 h.1), if_neg (fun h => hd2 h.1)]
        by_cases hm : t ∈ u1.cl.map (·.1)
        · have hn := h1 t (by simp only [List.mem_append]; exact .inr hm)
          simp only [List.mem_append, not_or] at hn
          rw [z1h hn.2, z1h hn.2]
        · rw [z1h hm, z1h hm]
  · rw [zce, zce, zce, zce]
    cases hb1 : u1.bx with
    | none => rfl
    | some b1 =>
      obtain ⟨id1, B1⟩ := b1
      cases hb2 : u2.bx with
      | none => rfl
      | some b2 =>
        obtain ⟨id2, B2⟩ := b2
        rw [hb1, hb2] at h2
        have hne : id1 ≠ id2 := fun e => h2 id1 (by simp) (by simp [e])
        simp only
        by_cases e1 : id1 = id
        · subst e1
          rw [if_neg (fun e => hne e.symm), if_pos rfl, if_pos rfl, if_neg (fun e => hne e.symm)]
        · by_cases e2 : id2 = id
          · subst e2
            rw [if_pos rfl, if_neg e1, if_neg e1, if_pos rfl]
          · rw [if_neg e2, if_neg e1, if_neg e1, if_neg e2]
theorem zx7 {ops : List Oper} {s s' : State} (h : ∀ t ∈ looks ops o, s.slot t = s'.slot t) : z11 s o = z11 s' o := by
  have hop : ∀ x ∈ o.op.operands.toList, s.op1 x = s'.op1 x := fun x hx => zks (ts := z3k o.op.operands.toList) (fun t ht => h t (by simp only [looks, List.mem_append]; exact .inl ht)) (fun _ ht => ht) hx
  unfold z11
  cases ho : o.op with
  | load T x => simp only; rw [hop x (by simp [ho, Op.operands])]
  | store T x y => simp only; rw [hop x (by simp [ho, Op.operands])]
  | convert S T x => simp only; rw [hop x (by simp [ho, Op.operands])]
  | slice T x lo hi mx => simp only; rw [hop x (by simp [ho, Op.operands])]
  | lookup T x i ok => simp only; rw [hop x (by simp [ho, Op.operands])]
  | mapUpdate T m k x => simp only; rw [hop m (by simp [ho, Op.operands])]
  | insert T m k x => simp only; rw [hop m (by simp [ho, Op.operands])]
  | next x str => simp only; rw [hop x (by simp [ho, Op.operands])]
  | call c =>
    obtain ⟨callee, args, ts⟩ := c
    have : (args.toList.map fun x => ptrOf (s.op1 x)) = args.toList.map fun x => ptrOf (s'.op1 x) := List.map_congr_left fun x hx => by
      rw [hop x (by
        simp only [ho, Op.operands, Call.operands, Array.toList_append, List.mem_append]
        exact .inr hx)]
    cases callee with
    | value f =>
      simp only
      have hf : s.op1 f = s'.op1 f := hop f (by
        simp only [ho, Op.operands, Call.operands, Array.toList_append, List.mem_append]
        exact .inl (by simp))
      rw [hf, List.flatMap_def, List.flatMap_def, this]
    | builtin b =>
      cases b with
      | copy => simp only; rw [List.flatMap_def, List.flatMap_def, this]
      | _ => rfl
    | _ => rfl
  | _ => rfl
theorem z15q {C : Funs} {ops : List Oper} {s s' : State} (h : Agree (looks ops o) (z11 s o) s s') : outOf E C ops o s = outOf E C ops o s' := by
  unfold outOf
  rw [z1s0 h]
  split
  · rfl
  · rename_i g want hg
    split
    · rfl
    · rename_i d hd
      rw [h.sl d (by simp [looks, hg, hd])]
theorem swap {C : Funs} {ops : List Oper} {o1 o2 : Oper} {i1 i2 : Nat} {u1 u2 : Out} (h1 : outOf E C ops o1 s = some u1) (h2 : outOf E C ops o2 (s.apply o1.dst u1) = some u2) (h : (z12 ops o1 i1 s u1).apart (z12 ops o2 i2 (s.apply o1.dst u1) u2) = true) :
    outOf E C ops o2 s = some u2 ∧ z12 ops o2 i2 s u2 = z12 ops o2 i2 (s.apply o1.dst u1) u2 ∧ outOf E C ops o1 (s.apply o2.dst u2) = some u1 ∧ z12 ops o1 i1 (s.apply o2.dst u2) u1 = z12 ops o1 i1 s u1 ∧
      (s.apply o2.dst u2).apply o1.dst u1 = (s.apply o1.dst u1).apply o2.dst u2 := by
  have hp := z19u h
  have ag1 : Agree (looks ops o2) (z11 (s.apply o1.dst u1) o2) (s.apply o1.dst u1) s := zx6 (fun t ht hm => (hp.h1 t hm).1 ht) (fun id hid hm => (hp.h3 id hm).1 hid)
  have hr1 := zx7 (ops := ops) (o := o2) ag1.sl
  have ag2 : Agree (looks ops o1) (z11 s o1) (s.apply o2.dst u2) s := zx6 (fun t ht hm => hp.h2 t hm ht) (fun id hid hm => hp.h4 id hm hid)
  have hr2 := zx7 (ops := ops) (o := o1) ag2.sl
  refine ⟨by rw [← z15q ag1]; exact h2, by simp only [z12, hr1], ?_, by simp only [z12, hr2], (z1hl (fun t ht => (hp.h1 t ht).2) (fun id hid => (hp.h3 id hid).2)).symm⟩
  rw [z15q (s := s.apply o2.dst u2) (s' := s) ⟨ag2.sl, fun id hid => ag2.bs id (by rw [← hr2]; exact hid)⟩]
  exact h1
end Go.Ref
namespace Go.Ref
open Go
variable {P : Program} {E : Env} {X : Cfg} {s : State} {a : Act} {o : Oper} {u : Out}
def Runs (E : Env) (C : Funs) (ops : Array Oper) : List Nat → State → List Foot → State → Prop
  | [], s, tr, z => s = z ∧ tr = []
  | i :: r, s, f :: tr, z => ∃ u, outOf E C ops.toList (ops.getD i default) s = some u ∧ f = z12 ops.toList (ops.getD i default) i s u ∧ Runs E C ops r (s.apply (ops.getD i default).dst u) tr z
  | _ :: _, _, [], _ => False
def aft (ops : Array Oper) (i : Nat) : Nat := z1a (ops.getD i default).after.toList
def Free (ops : Array Oper) (a b : Foot) : Prop := (aft ops b.i).testBit a.i = true ∨ a.apart b = true
theorem z1oe {C : Funs} {ops : Array Oper} : ∀ {l : List Nat} {s z : State} {tr : List Foot}, Runs E C ops l s tr z → tr.map (·.i) = l
  | [], s, z, tr, h => by rw [h.2]; rfl
  | i :: r, s, z, f :: tr, h => by
    obtain ⟨u, _, rfl, h3⟩ := h
    simp only [List.map_cons, z1oe h3]
    rfl
  | _ :: _, s, z, [], h => h.elim
theorem zww {C : Funs} (hC : C.Nat) {ops : Array Oper} {z : State} : ∀ (l : List Nat) (i : Nat) (s : State) (tr : List Foot), (∀ (j : Nat) k, l[j]? = some k → k = i + j) →
    z97 E (C State) ops.toList (l.map fun k => ops.getD k default) i s tr some = some z → ∃ trf, Runs E C ops l s trf z ∧ (∀ a ∈ tr, ∀ b ∈ trf, Free ops a b) ∧ trf.Pairwise (Free ops) ∧ ∀ k ∈ l, Nat.ble (aft ops k + 1) (bit k) = true
  | [], i, s, tr, hl, h => by
    cases h
    exact ⟨[], ⟨rfl, rfl⟩, (fun a _ b hb => by cases hb), List.Pairwise.nil, fun k hk => by cases hk⟩
  | k :: r, i, s, tr, hl, h => by
    have hk : k = i := by simpa using hl 0 k rfl
    subst hk
    simp only [List.map_cons, z97] at h
    obtain ⟨u, h1, h2, h3⟩ := z1n0 hC h
    obtain ⟨trf, r1, r2, r3, r4⟩ := zww hC r (k + 1) _ _ (fun j k' hj => by
      have := hl (j + 1) k' hj
      omega) h3
    simp only [fits, Bool.and_eq_true] at h2
    obtain ⟨h2a, h2b⟩ := h2
    have h2b := List.all_eq_true.1 h2b
    refine ⟨z12 ops.toList (ops.getD k default) k s u :: trf, ⟨u, h1, rfl, r1⟩, fun a ha b hb => ?_, ?_, fun k' hk' => ?_⟩
    · rcases List.mem_cons.1 hb with rfl | hb
      · have := h2b a ha
        simp only [Bool.or_eq_true] at this
        exact this
      · exact r2 a (List.mem_cons_of_mem _ ha) b hb
    · exact List.pairwise_cons.2 ⟨fun b hb => r2 _ (by simp) b hb, r3⟩
    · rcases List.mem_cons.1 hk' with rfl | hk'
      · exact h2a
      · exact r4 k' hk'
theorem z196 {C : Funs} {ops : Array Oper} {z : State} {i : Nat} {q : List Nat} : ∀ (p : List Nat) (s : State) (tr : List Foot), Runs E C ops (p ++ i :: q) s tr z → (∀ (tp : List Foot) f tq, tr = tp ++ f :: tq → tp.length = p.length → ∀ a ∈ tp, a.apart f = true) →
    ∃ tp f tq u, tr = tp ++ f :: tq ∧ tp.length = p.length ∧ outOf E C ops.toList (ops.getD i default) s = some u ∧ f = z12 ops.toList (ops.getD i default) i s u ∧ Runs E C ops (p ++ q) (s.apply (ops.getD i default).dst u) (tp ++ tq) z
  | [], s, [], h, hap => h.elim
  | [], s, f :: tr, h, hap => by
    obtain ⟨u, h1, h2, h3⟩ := h
    exact ⟨[], f, tr, u, rfl, rfl, h1, h2, h3⟩
  | j :: p, s, [], h, hap => h.elim
  | j :: p, s, g :: tr, h, hap => by
    obtain ⟨uj, h1, h2, h3⟩ := h
    obtain ⟨tp, f, tq, u, e1, e2, k1, k2, k3⟩ := z196 p _ tr h3 (fun tp f tq e hl a ha => hap (g :: tp) f tq (by rw [e]; rfl) (by simp [hl]) a (List.mem_cons_of_mem _ ha))
    have hg := hap (g :: tp) f tq (by rw [e1]; rfl) (by simp [e2]) g (by simp)
    rw [h2, k2] at hg
    obtain ⟨w1, w2, w3, w4, w5⟩ := swap h1 k1 hg
    refine ⟨g :: tp, f, tq, u, by rw [e1]; rfl, by simp [e2], w1, by rw [k2, w2], uj, w3, by rw [h2, w4], ?_⟩
    rw [w5]
    exact k3
theorem z1vf {l : List Nat} {i : Nat} (h : i ∈ l) : ∃ p q, l = p ++ i :: q := List.append_of_mem h
theorem z1hx {p q : List Nat} {i : Nat} (h : (p ++ i :: q).Nodup) : (p ++ i :: q).filter (fun j => !(Nat.beq j i)) = p ++ q := by
  have h' := List.nodup_append.1 h
  have hp : ∀ j ∈ p, j ≠ i := fun j hj => h'.2.2 j hj i (by simp)
  have hq : ∀ j ∈ q, j ≠ i := fun j hj e => by
    have := (List.nodup_cons.1 h'.2.1).1
    rw [e] at hj; exact this hj
  rw [List.filter_append, List.filter_cons]
  have hb : ∀ j, j ≠ i → (!(Nat.beq j i)) = true := fun j hj => by
    cases hh : Nat.beq j i with
    | false => rfl
    | true => exact absurd (Nat.eq_of_beq_eq_true hh) hj
  rw [List.filter_eq_self.2 (fun j hj => hb j (hp j hj)), List.filter_eq_self.2 (fun j hj => hb j (hq j hj))]
  have : (!(Nat.beq i i)) = false := by simp
  rw [this]
  simp
def rest (n : Nat) (listed : Array Bool) : List Nat := (List.range n).filter fun i => !listed.getD i true
theorem z1uj {n : Nat} {listed : Array Bool} (hs : listed.size = n) {i : Nat} {p q : List Nat} (h : rest n listed = p ++ i :: q) : rest n (listed.setIfInBounds i true) = p ++ q := by
  have hnd : (rest n listed).Nodup := List.nodup_range.filter _
  rw [h] at hnd
  rw [← z1hx hnd, ← h]
  simp only [rest, List.filter_filter]
  refine List.filter_congr fun j hj => ?_
  have hjn := List.mem_range.1 hj
  by_cases e : j = i
  · subst e
    have : (listed.setIfInBounds j true).getD j true = true := by simp [Array.getD_eq_getD_getElem?, hs, hjn]
    rw [this]; simp
  · have h1 : (listed.setIfInBounds i true).getD j true = listed.getD j true := by
      simp only [Array.getD_eq_getD_getElem?]
      rw [Array.getElem?_setIfInBounds_ne (fun h => e h.symm)]
    have h2 : Nat.beq j i = false := by
      cases hh : Nat.beq j i with
      | false => rfl
      | true => exact absurd (Nat.eq_of_beq_eq_true hh) e
    rw [h1, h2]; simp
theorem z14e {ops : Array Oper} {listed : Array Bool} {i : Nat} (h : i ∈ Region.ready .any ops listed) : i ∈ rest ops.size listed ∧ ∀ e ∈ (ops.getD i default).after.toList, Region.binds .any e = true → listed.getD e.on false = true := by
  unfold Region.ready at h
  obtain ⟨h1, h2⟩ := List.mem_filter.1 h
  have hi := List.mem_range.1 h1
  rw [Bool.and_eq_true] at h2
  refine ⟨List.mem_filter.2 ⟨h1, h2.1⟩, fun e he hb => ?_⟩
  have h3 := h2.2
  rw [Array.getElem?_eq_getElem hi] at h3
  simp only [Option.map_some, Option.getD_some] at h3
  have hget : ops.getD i default = ops[i] := by simp [hi]
  rw [hget] at he
  have h4 := Array.all_eq_true_iff_forall_mem.1 h3 e (by simpa using he)
  rw [hb] at h4
  simpa using h4
theorem z1vs {ops : Array Oper} {listed : Array Bool} {i : Nat} (h : i ∈ rest ops.size listed) (ha : ∀ e ∈ (ops.getD i default).after.toList, Region.binds .any e = true → listed.getD e.on false = true) : i ∈ Region.ready .any ops listed := by
  obtain ⟨h1, h2⟩ := List.mem_filter.1 h
  have hi := List.mem_range.1 h1
  refine List.mem_filter.2 ⟨h1, ?_⟩
  rw [Bool.and_eq_true]
  refine ⟨h2, ?_⟩
  have hget : ops.getD i default = ops[i] := by simp [hi]
  rw [Array.getElem?_eq_getElem hi]
  simp only [Option.map_some, Option.getD_some]
  refine Array.all_eq_true_iff_forall_mem.2 fun e he => ?_
  cases hb : Region.binds .any e with
  | false => rfl
  | true =>
    rw [ha e (by rw [hget]; simpa using he) hb]
    simp
theorem z1th (hE : EnvOk P E) {C : Funs} (hC : C.Nat) (hf : ∀ f, Owes P C f) {ops : Array Oper} {z : State} {Q : Exit → Act → World → Prop} (hlow : ∀ k, k < ops.size → Nat.ble (aft ops k + 1) (bit k) = true) :
    ∀ (fuel : Nat) (listed : Array Bool) (X : Cfg) (s : State) (a : Act) (tr : List Foot), Rel X s a → listed.size = ops.size → fuel = (rest ops.size listed).length → Runs E C ops (rest ops.size listed) s tr z → tr.Pairwise (Free ops) →
      (∀ Y a', Ext X Y → Rel Y z a' → Q .normal a' Y.w) → wpAny P .any ops Q fuel listed a X.w := by
  intro fuel
  -- where nothing is ready nothing is left
  have done : ∀ (listed : Array Bool), listed.size = ops.size → Region.ready .any ops listed = [] → rest ops.size listed = [] := by
    intro listed hs hr
    rcases hl : rest ops.size listed with _ | ⟨i, r⟩
    · rfl
    -- the least that is left is ready
    have hmem : i ∈ rest ops.size listed := by rw [hl]; simp
    have hin := List.mem_range.1 (List.mem_filter.1 hmem).1
    have hready : i ∈ Region.ready .any ops listed := by
      refine z1vs hmem fun e he hb => ?_
      have hlt : e.on < i := z1i5 (hlow i hin) (z13c _ e he hb)
      cases hx : listed.getD e.on false with
      | true => rfl
      | false =>
        exfalso
        have hlt2 : e.on < listed.size := by omega
        have hx2 : listed.getD e.on true = false := by
          simp only [Array.getD_eq_getD_getElem?, Array.getElem?_eq_getElem hlt2, Option.getD_some] at hx ⊢
          exact hx
        have hm : e.on ∈ rest ops.size listed := List.mem_filter.2 ⟨List.mem_range.2 (by omega), by rw [hx2]; rfl⟩
        have hsorted : (rest ops.size listed).Pairwise (· < ·) := List.pairwise_lt_range.filter _
        rw [hl] at hsorted hm
        rcases List.mem_cons.1 hm with e1 | hm
        · omega
        · have := (List.pairwise_cons.1 hsorted).1 _ hm
          omega
    rw [hr] at hready
    cases hready
  induction fuel with
  | zero =>
    intro listed X s a tr hr hs hfu hruns hpw hQ
    have hnil : rest ops.size listed = [] := List.eq_nil_of_length_eq_zero hfu.symm
    rw [hnil] at hruns
    obtain ⟨rfl, _⟩ := hruns
    refine ⟨?_, hQ X a (Ext.refl X) hr⟩
    rcases hrd : Region.ready .any ops listed with _ | ⟨i, r⟩
    · rfl
    · have := (z14e (i := i) (by rw [hrd]; simp)).1
      rw [hnil] at this
      cases this
  | succ fuel ih =>
    intro listed X s a tr hr hs hfu hruns hpw hQ
    refine ⟨fun hnone => ?_, fun i hi => ?_⟩
    · rw [done listed hs hnone] at hfu
      cases hfu
    · obtain ⟨hmem, haft⟩ := z14e hi
      obtain ⟨p, q, hpq⟩ := z1vf hmem
      have hin := List.mem_range.1 (List.mem_filter.1 hmem).1
      rw [hpq] at hruns
      have htri := z1oe hruns
      obtain ⟨tp, f, tq, u, e1, e2, k1, k2, k3⟩ := z196 p s tr hruns (fun tp f tq e hl a' ha' => by
        have hfi : f.i = i := by
          rw [e, List.map_append, List.map_cons] at htri
          have := List.append_inj htri (by simp [hl])
          injection this.2
        have haj : a'.i ∈ p := by
          rw [e, List.map_append, List.map_cons] at htri
          have := List.append_inj htri (by simp [hl])
          rw [← this.1]
          exact List.mem_map.2 ⟨a', ha', rfl⟩
        rw [e] at hpw
        have hfree := (List.pairwise_append.1 hpw).2.2 a' ha' f (by simp)
        rcases hfree with hb | hb
        · exfalso
          rw [hfi] at hb
          obtain ⟨ed, he1, he2, he3⟩ := zjv _ _ hb
          have hlist := haft ed he1 he2
          have hrest : a'.i ∈ rest ops.size listed := by rw [hpq]; exact List.mem_append_left _ haj
          have hnl := (List.mem_filter.1 hrest).2
          have hlt := List.mem_range.1 (List.mem_filter.1 hrest).1
          have hlt2 : a'.i < listed.size := by omega
          rw [he3] at hlist
          simp only [Array.getD_eq_getD_getElem?, Array.getElem?_eq_getElem hlt2, Option.getD_some] at hlist hnl
          rw [hlist] at hnl
          cases hnl
        · exact hb)
      have hrest := z1uj hs hpq
      have hio : ops[i]? = some (ops.getD i default) := by simp [hin]
      refine z1f8 hE hr hC hf hio (z1e6 hC k1) fun Y a' hext hrel => ?_
      refine ih (listed.setIfInBounds i true) Y _ a' (tp ++ tq) hrel (by simp [hs]) ?_ (by rw [hrest]; exact k3) ?_ (fun Z a2 hext2 hrel2 => hQ Z a2 (hext.trans hext2) hrel2)
      · rw [hrest]
        rw [hpq] at hfu
        simp only [List.length_append, List.length_cons] at hfu ⊢
        omega
      · rw [e1] at hpw
        obtain ⟨a1, a2, a3⟩ := List.pairwise_append.1 hpw
        exact List.pairwise_append.2 ⟨a1, (List.pairwise_cons.1 a2).2, fun x hx y hy => a3 x hx y (List.mem_cons_of_mem _ hy)⟩
theorem z1mk (hE : EnvOk P E) (hm : P.follows .mixedOrders = true) {C : Funs} (hC : C.Nat) (hf : ∀ f, Owes P C f) {id : Nat} {ops : Array Oper} {z : State} {Q : Exit → Act → World → Prop} (hr : Rel X s a) (h : z97 E (C State) ops.toList ops.toList 0 s [] some = some z)
    (hQ : ∀ Y a', Ext X Y → Rel Y z a' → Q .normal a' Y.w) : (Code.region id ops true).wp P Q a X.w := by
  have hrange : (List.range ops.size).map (fun i => ops.getD i default) = ops.toList := by
    apply List.ext_getElem?
    intro i
    rw [List.getElem?_map]
    by_cases hi : i < ops.size
    · simp [hi]
    · simp [hi]
  have hrest : rest ops.size (Array.replicate ops.size false) = List.range ops.size := by
    refine List.filter_eq_self.2 fun i hi => ?_
    have := List.mem_range.1 hi
    simp [this]
  obtain ⟨trf, r1, _, r3, r4⟩ := zww hC (List.range ops.size) 0 s [] (fun j k hj => by
    have := (List.getElem?_eq_some_iff.1 hj)
    obtain ⟨h1, h2⟩ := this
    simp at h2
    omega) (by rw [hrange]; exact h)
  have hk : Keep s X { X with w := { X.w with drawn := X.w.drawn + 1 } } := ⟨Nat.le_refl _, rfl, rfl, rfl, fun g _ => ⟨rfl, rfl⟩, rfl, fun _ _ _ => rfl⟩
  refine wp_region_any hm ?_
  exact z1th hE hC hf (fun k hk => r4 k (List.mem_range.2 hk)) ops.size (Array.replicate ops.size false) _ s a trf (hr.keep hk) (by simp) (by rw [hrest]; simp) (by rw [hrest]; exact r1) r3 (fun Y a' hext hrel => hQ Y a' (hk.ext.trans hext) hrel)
end Go.Ref
namespace Go.Ref
open Go
variable {P : Program} {E : Env} {X : Cfg} {s : State} {a : Act}
def Ex.exit' : Ex → Exit
  | .normal => .normal
  | .exit id => .exit id
  | .ret => .ret
theorem z1m0 {Q : Exit → Act → World → Prop} {c : Code} (I : Nat → Act → World → Prop) (round : ∀ n a w, I n a w → ∃ m, n = m + 1 ∧ c.wp P (Exit.then (I m) Q) a w) {n : Nat} {a : Act} {w : World} (h₀ : I n a w) : (Code.loop c).wp P Q a w := by
  intro b k cs
  have key : ∀ n a w, I n a w → ∃ e a' w', Q e a' w' ∧ Arrives P (lone (b.at a (.code c :: .inLoop c :: k)) cs w) b k cs e a' w' := by
    intro n
    induction n with
    | zero => intro a w h; obtain ⟨m, hm, _⟩ := round 0 a w h; cases hm
    | succ n ih =>
      intro a w h
      obtain ⟨m, hm, hr⟩ := round (n + 1) a w h
      cases hm
      obtain ⟨e, a₁, w₁, hq, harr⟩ := hr b (.inLoop c :: k) cs
      cases e with
      | normal =>
        obtain ⟨e₂, a₂, w₂, hq₂, harr₂⟩ := ih a₁ w₁ hq
        exact ⟨e₂, a₂, w₂, hq₂, .of_steps (Steps.trans harr (.one step_inLoop)) harr₂⟩
      | exit id => exact ⟨_, a₁, w₁, hq, .pass (x := .inLoop c) rfl (fun _ _ => .inl (by simp)) harr⟩
      | goto l => exact ⟨_, a₁, w₁, hq, .pass (x := .inLoop c) rfl (fun _ _ => .inl (by simp)) harr⟩
      | ret => exact ⟨_, a₁, w₁, hq, .pass (x := .inLoop c) rfl (fun _ _ => .inl (by simp)) harr⟩
      | panic ch => exact ⟨_, a₁, w₁, hq, .pass (x := .inLoop c) rfl (fun _ _ => .inl (by simp)) harr⟩
      | outgrown => exact ⟨_, a₁, w₁, hq, .pass (x := .inLoop c) rfl (fun _ _ => .inl (by simp)) harr⟩
  obtain ⟨e, a', w', hq, harr⟩ := key n a w h₀
  exact ⟨e, a', w', hq, .of_steps (.one step_loop) harr⟩
theorem z98 {α : Type} (z : α) (l : List Nat) : ∀ (xs : List α) (i j : Nat), (keepL z l i xs)[j]? = (xs[j]?).map fun x => bif l.any (Nat.beq (i + j)) then x else z
  | [], i, j => by simp [keepL]
  | x :: r, i, 0 => by simp [keepL]
  | x :: r, i, j + 1 => by
    simp only [keepL, List.getElem?_cons_succ]
    rw [z98 z l r (i + 1) j, show i + 1 + j = i + (j + 1) by omega]
theorem zoa {α : Type} (z : α) (l : List Nat) : ∀ (xs : List α) (i : Nat), (keepL z l i xs).length = xs.length
  | [], i => rfl
  | x :: r, i => by simp [keepL, zoa z l r]
theorem z16y {p q : List Nat} : ∀ {l : List (List Nat)}, q ∈ insL p l → q = p ∨ q ∈ l
  | [], h => by simp [insL] at h; exact .inl h
  | r :: l, h => by
    simp only [insL] at h
    cases hl : ltL r p with
    | false => rw [hl] at h; simpa using h
    | true =>
      rw [hl] at h
      rcases List.mem_cons.1 h with h | h
      · exact .inr (by simp [h])
      · rcases z16y h with h | h
        · exact .inl h
        · exact .inr (List.mem_cons_of_mem _ h)
theorem zml {q : List Nat} : ∀ {l : List (List Nat)}, q ∈ normL l → q ∈ l
  | [], h => h
  | p :: l, h => by
    rcases z16y h with h | h
    · simp [h]
    · exact List.mem_cons_of_mem _ (zml h)
theorem z1wb {v : SV} {id : Nat} {t : Ty} {p : List Nat} (h : v.norm = .ptr id t p) : v = .ptr id t p := by
  cases v <;> simp [SV.norm] at h
  obtain ⟨h1, h2, h3⟩ := h
  rw [h1, h2, h3]
theorem RepV.norm {pl : List Nat → Place} {sv : SV} {v : Value} (hr : RepV X pl sv v) : RepV X pl sv.norm v := by
  cases sv with
  | dat t x own =>
    obtain ⟨cs, h1, h2, h3⟩ := hr
    exact ⟨cs, h1, h2, fun p hp => h3 p (zml hp)⟩
  | _ => exact hr
theorem RepL.norm {pl : Nat → List Nat → Place} {l : List SV} {v : Value} (hr : RepL X pl l v) : RepL X pl (l.map SV.norm) v := by
  match l, hr with
  | [s], hr => exact RepV.norm hr
  | [], hr => exact hr
  | x :: y :: r, ⟨vs, h1, h2, h3⟩ =>
    refine ⟨vs, h1, by simpa using h2, fun j s u hs hu => ?_⟩
    have hs : ((x :: y :: r).map SV.norm)[j]? = some s := hs
    rw [List.getElem?_map] at hs
    obtain ⟨s0, hs0, rfl⟩ := Option.map_eq_some_iff.1 hs
    exact RepV.norm (h3 j s0 u hs0 hu)
theorem Held.less {r : Nat} {pl : List Nat → Place} {t : Ty} {x : El t} {own own' : List (List Nat)} (ho : ∀ p ∈ own', p ∈ own) (h : Held X r pl t x own) : Held X r pl t x own' := by
  unfold Held at h ⊢
  split at h
  · exact h
  · exact h
  · exact h
  · exact ⟨h.1, fun hm => h.2 (ho [] hm)⟩
  · exact h.elim
  · obtain ⟨cs, T, h1, h2, h3⟩ := h
    exact ⟨cs, T, h1, h2, fun p hp => h3 p (ho p hp)⟩
theorem Rel.norm (hr : Rel X s a) : Rel X s.norm a where
  size := by simpa [State.norm] using hr.size
  bsz := by simpa [State.norm] using hr.bsz
  slots := fun i l v hl hv => by
    simp only [State.norm, List.getElem?_map] at hl
    obtain ⟨l0, h0, rfl⟩ := Option.map_eq_some_iff.1 hl
    exact RepL.norm (hr.slots i l0 v h0 hv)
  boxes := fun id B hB => by
    simp only [State.norm, List.getElem?_map] at hB
    obtain ⟨b0, h0, h1⟩ := Option.map_eq_some_iff.1 hB
    obtain ⟨B0, rfl, rfl⟩ := Option.map_eq_some_iff.1 h1
    obtain ⟨r, g1, g2, g3⟩ := hr.boxes id B0 h0
    exact ⟨r, g1, g2, g3.less fun p hp => zml hp⟩
  live := fun i l id t p hl hm => by
    simp only [State.norm, List.getElem?_map] at hl
    obtain ⟨l0, h0, rfl⟩ := Option.map_eq_some_iff.1 hl
    obtain ⟨v0, hv0, he⟩ := List.mem_map.1 hm
    rw [z1wb he] at hv0
    obtain ⟨B, hB⟩ := hr.live i l0 id t p h0 hv0
    exact ⟨B.norm, by simp [State.norm, hB]⟩
  defers := hr.defers
theorem z6y (hr : Rel X s a) {l : List Nat} {R : Type} {K : State → Option R} {z : R} (h : z3j l s K = some z) : ∃ s', K s' = some z ∧ Rel X s' a := by
  unfold z3j at h
  simp only at h
  cases hb : (keepL [.undef] l 0 s.sl).all (fun v => v.all (SV.roots l)) with
  | false => rw [hb] at h; cases h
  | true =>
    rw [hb] at h
    refine ⟨_, h, Rel.norm ?_⟩
    have hbs : s.bs = s.bs.headD none :: s.bs.tail := by
      have := hr.bsz
      cases hs : s.bs with
      | nil => rw [hs] at this; simp at this
      | cons b r => rfl
    have hget : ∀ (id : Nat) B, (s.bs.headD none :: keepL none l 0 s.bs.tail)[id]? = some (some B) → s.bs[id]? = some (some B) := by
      intro id B hB
      rw [hbs]
      cases id with
      | zero => exact hB
      | succ id =>
        simp only [List.getElem?_cons_succ] at hB ⊢
        rw [z98] at hB
        obtain ⟨x, hx, he⟩ := Option.map_eq_some_iff.1 hB
        rw [hx]
        cases hl : l.any (Nat.beq (0 + id)) <;> rw [hl] at he
        · cases he
        · rw [← he]; rfl
    refine ⟨by rw [zoa]; exact hr.size, ?_, fun i v x hv hx => ?_, fun id B hB => hr.boxes id B (hget id B hB), fun i v id t p hv hm => ?_, hr.defers⟩
    · simp only [List.length_cons, zoa, List.length_tail]
      have := hr.bsz
      omega
    · rw [z98] at hv
      obtain ⟨y, hy, rfl⟩ := Option.map_eq_some_iff.1 hv
      cases hl : l.any (Nat.beq (0 + i)) with
      | false => trivial
      | true => exact hr.slots i y x hy hx
    · have hroot : SV.roots l (.ptr id t p) = true := by
        have := List.all_eq_true.1 hb v (List.mem_of_getElem? hv)
        exact List.all_eq_true.1 this _ hm
      rw [z98] at hv
      obtain ⟨y, hy, he⟩ := Option.map_eq_some_iff.1 hv
      have hm' : SV.ptr id t p ∈ y := by
        cases hl : l.any (Nat.beq (0 + i)) with
        | false => rw [hl] at he; subst he; simp at hm
        | true => rw [hl] at he; subst he; exact hm
      obtain ⟨B, hB⟩ := hr.live i y id t p hy hm'
      refine ⟨B, ?_⟩
      rw [hbs] at hB
      cases id with
      | zero => exact hB
      | succ id =>
        simp only [List.getElem?_cons_succ] at hB ⊢
        rw [z98, hB]
        have : l.any (Nat.beq id) = true := hroot
        have h2 : l.any (Nat.beq (0 + id)) = true := by rw [Nat.zero_add]; exact this
        simp [this]
theorem z1vz {Y : Cfg} {id : Nat} {pl : Nat → List Nat → Place} {l : List SV} {v : Value} (hr : RepL Y pl l v) : RepL Y pl (clr id l) v := by
  have key : ∀ (sv : SV) (q : List Nat → Place) (w : Value), RepV Y q sv w → RepV Y q (match sv with
      | .ptr j _ _ => bif Nat.beq j id then .undef else sv
      | v => v) w := by
    intro sv q w h
    cases sv with
    | ptr j t p =>
      simp only
      cases Nat.beq j id with
      | true => trivial
      | false => exact h
    | _ => exact h
  match l, hr with
  | [sv], hr => exact key sv _ _ hr
  | [], hr => exact hr
  | x :: y :: r, ⟨vs, h1, h2, h3⟩ =>
    refine ⟨vs, h1, by simpa [clr] using h2, fun j s u hs hu => ?_⟩
    have hs : (clr id (x :: y :: r))[j]? = some s := hs
    unfold clr at hs
    rw [List.getElem?_map] at hs
    obtain ⟨s0, hs0, rfl⟩ := Option.map_eq_some_iff.1 hs
    exact key s0 _ _ (h3 j s0 u hs0 hu)
theorem z1zu {id : Nat} {l : List SV} {j : Nat} {t : Ty} {p : List Nat} (h : SV.ptr j t p ∈ clr id l) : SV.ptr j t p ∈ l ∧ j ≠ id := by
  unfold clr at h
  obtain ⟨s0, hs0, he⟩ := List.mem_map.1 h
  cases s0 with
  | ptr j' t' p' =>
    simp only at he
    cases hb : Nat.beq j' id with
    | true => rw [hb] at he; cases he
    | false =>
      rw [hb] at he
      cases he
      exact ⟨hs0, fun e => Nat.ne_of_beq_eq_false hb e⟩
  | _ => simp only at he; cases he
def Cfg.still (X : Cfg) (r n : Nat) : Cfg := { X with ow := fun g => if g = r then .ro n else X.ow g }
theorem z2d {r n id : Nat} (h : X.ow r = .box id) {ad : Addr} {v : Value} (hs : X.sees ad v) : (X.still r n).sees ad v := by
  have hne : ad.block ≠ r := fun e => by
    have := hs.2.2
    rw [e, h] at this
    exact this
  refine ⟨hs.1, hs.2.1, ?_⟩
  simp only [Cfg.still]
  rw [if_neg hne]
  exact hs.2.2
theorem z15f {r n id : Nat} (h : X.ow r = .box id) : Ext X (X.still r n) where
  sees := fun _ _ => z2d h
  size := Nat.le_refl _
  os := rfl
  tape := rfl
  output := rfl
  β0 := rfl
  still := fun g _ hst => by
    have hne : g ≠ r := fun e => by rw [e, h] at hst; exact hst
    exact ⟨by simp only [Cfg.still]; rw [if_neg hne], rfl⟩
theorem OwnAt.stilled {r n id : Nat} (h : X.ow r = .box id) {pl : Place} {e : TypeId} {k m : Nat} {v : Value} (ho : OwnAt X pl e k m v) : OwnAt (X.still r n) pl e k m v := by
  rcases ho with ho | ⟨g, cap, cur, h1, h2, h3, h4, h5, h6⟩
  · exact .inl ho
  · have hne : g ≠ r := fun e => by rw [e, h] at h6; cases h6
    exact .inr ⟨g, cap, cur, h1, h2, h3, h4, h5, by simp only [Cfg.still]; rw [if_neg hne]; exact h6⟩
theorem OwnP.stilled {r n id : Nat} (h : X.ow r = .box id) {pl : List Nat → Place} {t : Ty} {x : El t} {c : List Value} {own : List (List Nat)} (ho : OwnP X pl t x c own) : OwnP (X.still r n) pl t x c own := fun p hp => by
  obtain ⟨e, t', xs, v, g0, g1, g2, g3⟩ := ho p hp
  exact ⟨e, t', xs, v, g0, g1, g2, g3.stilled h⟩
theorem RepV.stilled {r n id : Nat} (h : X.ow r = .box id) {pl : List Nat → Place} {sv : SV} {v : Value} (hr : RepV X pl sv v) : RepV (X.still r n) pl sv v := by
  cases sv with
  | dat t x own =>
    obtain ⟨c, h1, h2, h3⟩ := hr
    exact ⟨c, h1.sees_mono (fun _ _ => z2d h), h2, h3.stilled h⟩
  | view t x =>
    obtain ⟨ad, c, h1, h2, h3, h4⟩ := hr
    exact ⟨ad, c, h1, h2, h3.sees_mono (fun _ _ => z2d h), fun i u hi => z2d h (h4 i u hi)⟩
  | cap f t x u y => exact z3i (fun _ _ => z2d h) hr
  | _ => exact hr
theorem zow (l : List Nat) : ∀ (xs : List (Option Box)) (i j : Nat), (dropB l i xs)[j]? = (xs[j]?).map fun b => bif l.any (Nat.beq (i + j)) then b.map (fun B => { B with own := [] }) else b
  | [], i, j => by simp [dropB]
  | x :: r, i, 0 => by simp [dropB]
  | x :: r, i, j + 1 => by
    simp only [dropB, List.getElem?_cons_succ]
    rw [zow l r (i + 1) j, show i + 1 + j = i + (j + 1) by omega]
theorem z15p (l : List Nat) : ∀ (xs : List (Option Box)) (i : Nat), (dropB l i xs).length = xs.length
  | [], i => rfl
  | x :: r, i => by simp [dropB, z15p l r]
theorem Rel.drop (hr : Rel X s a) (l : List Nat) : Rel X (s.drop l) a where
  size := hr.size
  bsz := by simp only [State.drop, z15p]; exact hr.bsz
  slots := hr.slots
  boxes := fun id B hB => by
    simp only [State.drop, zow] at hB
    obtain ⟨b0, h0, h1⟩ := Option.map_eq_some_iff.1 hB
    cases hl : l.any (Nat.beq (0 + id)) with
    | false => rw [hl] at h1; simp only [cond_false] at h1; subst h1; exact hr.boxes id B h0
    | true =>
      rw [hl] at h1
      simp only [cond_true] at h1
      obtain ⟨B0, rfl, rfl⟩ := Option.map_eq_some_iff.1 h1
      obtain ⟨r, g1, g2, g3⟩ := hr.boxes id B0 h0
      exact ⟨r, g1, g2, g3.less fun p hp => by cases hp⟩
  live := fun i v id t p hv hm => by
    obtain ⟨B, hB⟩ := hr.live i v id t p hv hm
    simp only [State.drop, zow, hB, Option.map_some]
    cases l.any (Nat.beq (0 + id)) <;> exact ⟨_, rfl⟩
  defers := hr.defers
theorem z1vh (hr : Rel X s a) {r : Nat} {R : Type} {K : State → Option R} {z : R} (h : thaw E r s K = some z) : ∃ Y s', Y.w = X.w ∧ Ext X Y ∧ K s' = some z ∧ Rel Y s' a := by
  unfold thaw at h
  split at h
  · exact ⟨X, s, rfl, Ext.refl X, h, hr⟩
  rename_i d T hfz
  split at h
  case h_2 => cases h
  rename_i id n ta tb e t hsl hT
  split at h
  case isFalse => cases h
  rename_i heq
  have := Ty.eqb_eq heq
  subst this
  split at h
  case h_2 => cases h
  rename_i B hB
  split at h
  case isFalse => cases h
  rename_i hbt
  obtain ⟨hb, rr, h1, how, cs, T', hheap, hsz, hel⟩ := z89 hr hB hbt
  generalize (Ty.cast hbt B.x : List (El ta)) = xs at *
  cases hn : Nat.beq n (List.length xs) with
  | false => rw [hn] at h; cases h
  | true =>
    rw [hn] at h
    have hn := Nat.eq_of_beq_eq_true hn
    have hd : d < s.sl.length := by
      rcases Nat.lt_or_ge d s.sl.length with h1 | h1
      · exact h1
      · simp [State.slot, List.getElem?_eq_none h1] at hsl
    have hslot := hr.slot d
    rw [hsl] at hslot
    obtain ⟨r0, hβ, cap, hv, hcap⟩ := (show RepV X (.c d 0) (.ptr id (.spc (.hdr n) ta tb) []) _ from hslot)
    rw [h1] at hβ
    cases hβ
    have hlt : id < s.bs.length := (List.getElem?_eq_some_iff.1 hb).1
    refine ⟨X.still rr (xs.length * ta.cells), _, rfl, z15f how, h, ?_, ?_, fun i l v hl hx => ?_, fun id' B' hB' => ?_, fun i l j t p hl hm => ?_, hr.defers⟩
    · simpa using hr.size
    · simpa using hr.bsz
    · replace hl : ((s.sl.map (clr id)).set d [.dat (.sl e ta) xs []])[i]? = some l := hl
      rw [List.getElem?_set] at hl
      split at hl
      · rename_i hdi
        subst hdi
        rw [if_pos (by simpa using hd)] at hl
        cases hl
        have hx' : a.tmps.getD d Go.undef = v := by
          rw [Array.getD_eq_getD_getElem?, hx]; rfl
        rw [hx'] at hv
        refine ⟨[v], ?_, rfl, z1r⟩
        rw [hv, hn]
        refine Rep.slmk rfl (by omega) (fun j y hj => ⟨⟨rr, 0, none⟩, _, rfl, rfl, (hel j y hj).sees_mono (fun _ _ => z2d how), fun i u hi => ?_⟩)
        have hjl := (List.getElem?_eq_some_iff.1 hj).1
        have hle : (j + 1) * ta.cells ≤ xs.length * ta.cells := Nat.mul_le_mul_right _ hjl
        rw [Nat.add_mul, Nat.one_mul] at hle
        rw [List.getElem?_take] at hi
        split at hi
        case isFalse => cases hi
        rename_i hik
        rw [List.getElem?_drop] at hi
        refine ⟨z5w rfl _, ?_, ?_⟩
        · rw [z23, Nat.zero_add]
          show X.w.cell? _ = _
          simp only [World.cell?, hheap]
          simpa using hi
        · rw [z23, Nat.zero_add]
          show Ow.used (if rr = rr then .ro (xs.length * ta.cells) else X.ow rr) _
          rw [if_pos rfl]
          show j * ta.cells + i < _
          omega
      · rw [List.getElem?_map] at hl
        obtain ⟨l0, h0, rfl⟩ := Option.map_eq_some_iff.1 hl
        exact z1vz ((hr.slots i l0 v h0 hx).impF fun j sv u hm hsv => hsv.stilled how)
    · replace hB' : (s.bs.set id none)[id']? = some (some B') := hB'
      rw [List.getElem?_set] at hB'
      split at hB'
      · rename_i hii
        cases hB'
      · rename_i hii
        obtain ⟨r', g1, g2, g3⟩ := hr.boxes id' B' hB'
        have hne : r' ≠ rr := fun e2 => by rw [e2, how] at g2; cases g2; exact hii rfl
        exact ⟨r', g1, by simp only [Cfg.still]; rw [if_neg hne]; exact g2, g3.move (fun _ _ => z2d how) rfl (fun cs h5 => h5.stilled how) fun _ g o ho hw => ⟨ho, by simp only [Cfg.still]; rw [if_neg (fun e3 => by rw [e3, how] at hw; cases hw)]; exact hw⟩⟩
    · replace hl : ((s.sl.map (clr id)).set d [.dat (.sl e ta) xs []])[i]? = some l := hl
      rw [List.getElem?_set] at hl
      split at hl
      · rw [if_pos (by simpa using hd)] at hl
        cases hl
        simp at hm
      · rw [List.getElem?_map] at hl
        obtain ⟨l0, h0, rfl⟩ := Option.map_eq_some_iff.1 hl
        obtain ⟨hm, hne⟩ := z1zu hm
        obtain ⟨B2, hB2⟩ := hr.live i l0 j t p h0 hm
        exact ⟨B2, by show (s.bs.set id none)[j]? = _; rw [List.getElem?_set, if_neg (fun e => hne e.symm)]; exact hB2⟩
theorem z137 (hr : Rel X s a) {id rr : Nat} {B : Box} (hb : s.bs[id]? = some (some B)) (hs : B.t.isSpc = false) (h1 : X.β id = some rr) (how : X.ow rr = .box id) {cs : Array Value} {T : TypeId} (hheap : X.w.heap[rr]? = some (.cells cs T (0, 0))) (hrep : Rep X B.t B.x cs.toList) {pl : List Nat → Place} {sv : SV} {v : Value} (h : RepV X pl sv v) : RepV (X.still rr cs.size) pl (z7a id B sv) v := by
  have keep := h.stilled (n := cs.size) how
  cases sv with
  | ptr j t p =>
    unfold z7a
    simp only
    cases hj : Nat.beq j id with
    | false => exact keep
    | true =>
      have := Nat.eq_of_beq_eq_true hj
      subst this
      simp only [cond_true]
      split
      case isFalse => trivial
      rename_i heq
      have := Ty.eqb_eq heq
      subst this
      split
      case h_2 => trivial
      rename_i u y hget
      obtain ⟨r0, hβ, hv⟩ := h
      rw [h1] at hβ
      cases hβ
      obtain ⟨hv, hin⟩ := (z1n hs).1 hv
      obtain ⟨k1, k2, k3⟩ := zui hrep hin hget
      refine ⟨_, _, hv, rfl, k3.sees_mono (fun _ _ => z2d how), fun i w hi => ⟨z5w rfl _, ?_, ?_⟩⟩
      · exact zk7 hheap hi
      · rw [z23]
        show Ow.used (if rr = rr then .ro cs.size else X.ow rr) _
        rw [if_pos rfl]
        rw [List.getElem?_take] at hi
        split at hi
        case isFalse => cases hi
        rw [List.getElem?_drop] at hi
        have := (List.getElem?_eq_some_iff.1 hi).1
        show _ < cs.size
        simpa using this
  | _ => exact keep
theorem z1kk (hr : Rel X s a) {id rr : Nat} {B : Box} (hb : s.bs[id]? = some (some B)) (hs : B.t.isSpc = false) (h1 : X.β id = some rr) (how : X.ow rr = .box id) {cs : Array Value} {T : TypeId} (hheap : X.w.heap[rr]? = some (.cells cs T (0, 0))) (hrep : Rep X B.t B.x cs.toList) {pl : Nat → List Nat → Place} {l : List SV} {v : Value} (h : RepL X pl l v) : RepL (X.still rr cs.size) pl (l.map (z7a id B)) v := by
  match l, h with
  | [sv], h => exact z137 hr hb hs h1 how hheap hrep h
  | [], ⟨vs, g1, g2, g3⟩ => exact ⟨vs, g1, g2, fun j sv u hs' => by simp at hs'⟩
  | x :: y :: r, ⟨vs, g1, g2, g3⟩ =>
    refine ⟨vs, g1, by simpa using g2, fun j sv u hs' hu => ?_⟩
    have hs' : ((x :: y :: r).map (z7a id B))[j]? = some sv := hs'
    rw [List.getElem?_map] at hs'
    obtain ⟨s0, hs0, rfl⟩ := Option.map_eq_some_iff.1 hs'
    exact z137 hr hb hs h1 how hheap hrep (g3 j s0 u hs0 hu)
theorem z1wq {id : Nat} {B : Box} {l : List SV} {j : Nat} {t : Ty} {p : List Nat} (h : SV.ptr j t p ∈ l.map (z7a id B)) : SV.ptr j t p ∈ l ∧ j ≠ id := by
  obtain ⟨s0, hs0, he⟩ := List.mem_map.1 h
  unfold z7a at he
  cases s0 with
  | ptr j' t' p' =>
    simp only at he
    cases hb : Nat.beq j' id with
    | true =>
      rw [hb] at he
      simp only [cond_true] at he
      split at he
      · split at he <;> cases he
      · cases he
    | false =>
      rw [hb] at he
      cases he
      exact ⟨hs0, fun e => Nat.ne_of_beq_eq_false hb e⟩
  | _ => simp only at he; cases he
theorem z1el (hr : Rel X s a) {id : Nat} {R : Type} {K : State → Option R} {z : R} (h : zvf id s K = some z) : ∃ Y s', Y.w = X.w ∧ Ext X Y ∧ K s' = some z ∧ Rel Y s' a := by
  unfold zvf at h
  split at h
  case h_2 => cases h
  rename_i B hB
  split at h
  case isTrue => cases h
  rename_i hs
  have hs : B.t.isSpc = false := by simpa using hs
  have hb := z2h hB
  obtain ⟨rr, h1, hBA⟩ := hr.boxes id B hb
  obtain ⟨cs, T, hheap, hrep, how, _⟩ := hBA.cells hs
  refine ⟨X.still rr cs.size, _, rfl, z15f how, h, by simpa using hr.size, by simpa using hr.bsz, fun i l v hl hx => ?_, fun id' B' hB' => ?_, fun i l j t p hl hm => ?_, hr.defers⟩
  · replace hl : (s.sl.map fun l => l.map (z7a id B))[i]? = some l := hl
    rw [List.getElem?_map] at hl
    obtain ⟨l0, h0, rfl⟩ := Option.map_eq_some_iff.1 hl
    exact z1kk hr hb hs h1 how hheap hrep (hr.slots i l0 v h0 hx)
  · replace hB' : (s.bs.set id none)[id']? = some (some B') := hB'
    rw [List.getElem?_set] at hB'
    split at hB'
    · split at hB' <;> cases hB'
    · rename_i hii
      obtain ⟨r', g1, g2, g3⟩ := hr.boxes id' B' hB'
      have hne : r' ≠ rr := fun e2 => by rw [e2, how] at g2; cases g2; exact hii rfl
      exact ⟨r', g1, by simp only [Cfg.still]; rw [if_neg hne]; exact g2, g3.move (fun _ _ => z2d how) rfl (fun cs h5 => h5.stilled how) fun _ g o ho hw => ⟨ho, by simp only [Cfg.still]; rw [if_neg (fun e3 => by rw [e3, how] at hw; cases hw)]; exact hw⟩⟩
  · replace hl : (s.sl.map fun l => l.map (z7a id B))[i]? = some l := hl
    rw [List.getElem?_map] at hl
    obtain ⟨l0, h0, rfl⟩ := Option.map_eq_some_iff.1 hl
    obtain ⟨hm, hne⟩ := z1wq hm
    obtain ⟨B2, hB2⟩ := hr.live i l0 j t p h0 hm
    exact ⟨B2, by show (s.bs.set id none)[j]? = _; rw [List.getElem?_set, if_neg (fun e => hne e.symm)]; exact hB2⟩
theorem zws {R : Type} {K : State → Option R} {z : R} : ∀ (l : List Nat) (X : Cfg) (s : State), Rel X s a → zbg l s K = some z → ∃ Y s', Y.w = X.w ∧ Ext X Y ∧ K s' = some z ∧ Rel Y s' a
  | [], X, s, hr, h => ⟨X, s, rfl, Ext.refl X, h, hr⟩
  | id :: r, X, s, hr, h => by
    obtain ⟨Y, s1, h1, h2, h3, h4⟩ := z1el hr h
    obtain ⟨Z, s2, k1, k2, k3, k4⟩ := zws r Y s1 h4 h3
    exact ⟨Z, s2, k1.trans h1, h2.trans k2, k3, k4⟩
def z1ah (P : Program) (E : Env) (C : Funs) (k : Nat) (c : Code) : Prop :=
  ∀ (X : Cfg) (s : State) (a : Act) (e : Ex) (s' : State), Rel X s a → ev E (C (Ex × State)) k c s (fun e s => some (e, s)) = some (e, s') →
    ∀ (Q : Exit → Act → World → Prop), (∀ Y a', Ext X Y → Rel Y s' a' → Q e.exit' a' Y.w) → c.wp P Q a X.w
theorem z1vl (hr : Rel X s a) {k r : Nat} {R : Type} {K : State → Option R} {z : R} (h : meet E k r s K = some z) : ∃ s', K s' = some z ∧ Rel X s' a := by
  unfold meet at h
  split at h
  · exact ⟨s, h, hr⟩
  · obtain ⟨s', h1, h2⟩ := z6y hr h
    refine ⟨s', ?_, h2⟩
    unfold joinK at h1
    split at h1
    · cases h1
    · exact h1
theorem z1ln {C : Funs} (hC : C.Nat) {k : Nat} {b : Code} (hb : z1ah P E C k b) {l lx : List Nat} {Q : Exit → Act → World → Prop} {e' : Ex} {s' : State} {X0 : Cfg} (hQ : ∀ Y a', Ext X0 Y → Rel Y s' a' → Q e'.exit' a' Y.w) :
    ∀ (n : Nat) (a : Act) (w : World), (∃ X s, X.w = w ∧ Ext X0 X ∧ Rel X s a ∧ loopR (ev E (C (Ex × State)) k b) l lx n s (fun e s => some (e, s)) = some (e', s')) →
      ∃ m, n = m + 1 ∧ b.wp P (Exit.then (fun a w => ∃ X s, X.w = w ∧ Ext X0 X ∧ Rel X s a ∧ loopR (ev E (C (Ex × State)) k b) l lx m s (fun e s => some (e, s)) = some (e', s')) Q) a w := by
  rintro n a w ⟨X, s, rfl, hext, hr, h⟩
  cases n with
  | zero => cases h
  | succ m =>
    refine ⟨m, rfl, ?_⟩
    simp only [loopR] at h
    obtain ⟨⟨e1, s2⟩, h1, h2⟩ := z1x (z5k hC b _ (fun e s => some (e, s)) (K := fun z => match z.1 with
      | .normal => z3j l z.2 fun s => loopR (ev E (C (Ex × State)) k b) l lx m s (fun e s => some (e, s))
      | e => z3j lx z.2 fun s => some (e, s)) (fun e s => by cases e <;> rfl) s) h
    refine hb X s a e1 s2 hr h1 _ fun Y a' hext2 hrel => ?_
    cases e1 with
    | normal =>
      obtain ⟨s3, h3, hr3⟩ := z6y hrel h2
      exact ⟨Y, s3, rfl, hext.trans hext2, hr3, h3⟩
    | exit id =>
      obtain ⟨s3, h3, hr3⟩ := z6y hrel h2
      cases h3
      exact hQ Y a' (hext.trans hext2) hr3
    | ret =>
      obtain ⟨s3, h3, hr3⟩ := z6y hrel h2
      cases h3
      exact hQ Y a' (hext.trans hext2) hr3
theorem z4g (hE : EnvOk P E) (hm : P.follows .mixedOrders = true) {C : Funs} (hC : C.Nat) (hf : ∀ f, Owes P C f) (k : Nat) : ∀ c : Code, z1ah P E C k c
  | .skip => fun X s a e s' hr h Q hQ => by
    simp only [ev, Option.some.injEq, Prod.mk.injEq] at h
    obtain ⟨rfl, rfl⟩ := h
    exact wp_skip (hQ X a (Ext.refl X) hr)
  | .region id ops d => fun X0 s0 a e s' hr0 h0 Q hQ0 => by
    simp only [ev] at h0
    obtain ⟨X1, s1, hw1, hext1, h01, hr1⟩ := z1vh hr0 h0
    obtain ⟨X, s, hw2, hext2, h, hr⟩ := zws _ X1 s1 hr1 h01
    have hw : X.w = X0.w := hw2.trans hw1
    have hext0 : Ext X0 X := hext1.trans hext2
    clear h01 hr1 hw1 hw2 hext1 hext2
    have hQ : ∀ Y a', Ext X Y → Rel Y s' a' → Q e.exit' a' Y.w := fun Y a' hext hrel => hQ0 Y a' (hext0.trans hext) hrel
    rw [← hw]
    clear h0 hr0 hQ0 hext0 hw
    cases d with
    | true =>
      simp only [cond_true] at h
      obtain ⟨s1, h1, h2⟩ := z1x (zkb hC (F := fun s => some (Ex.normal, s)) (G := some) (K := fun s => some (Ex.normal, s)) (fun _ => rfl) ops.toList 0 s []) h
      cases h2
      exact z1mk hE hm hC hf hr h1 hQ
    | false =>
      simp only [cond_false] at h
      obtain ⟨s1, h1, h2⟩ := z1x (zmj hC (F := fun s => some (Ex.normal, s)) (G := some) (K := fun s => some (Ex.normal, s)) (fun _ => rfl) ops.toList s) h
      cases h2
      refine wp_region (z197 hE hC hf (List.range ops.size) X s a hr (fun i hi => List.mem_range.1 hi) ?_ hQ)
      have : (List.range ops.size).map (fun i => ops.getD i default) = ops.toList := by
        apply List.ext_getElem?
        intro i
        rw [List.getElem?_map]
        by_cases hi : i < ops.size
        · simp [hi]
        · simp [hi]
      rw [this]; exact h1
  | .seq x y => fun X s a e s' hr h Q hQ => by
    simp only [ev] at h
    obtain ⟨⟨e1, s1⟩, h1, h2⟩ := z1x (z5k hC x _ (fun e s => some (e, s)) (K := fun z => match z.1 with
      | .normal => meet E k (z1v y) z.2 fun s => ev E (C (Ex × State)) k y s (fun e s => some (e, s))
      | e => some (e, z.2)) (fun e s => by cases e <;> rfl) s) h
    refine wp_seq (z4g hE hm hC hf k x X s a e1 s1 hr h1 _ fun Y a' hext hrel => ?_)
    cases e1 with
    | normal =>
      obtain ⟨s2, h2, hrel⟩ := z1vl hrel h2
      exact z4g hE hm hC hf k y Y s2 a' e s' hrel h2 Q fun Z a2 hext2 hrel2 => hQ Z a2 (hext.trans hext2) hrel2
    | exit id => cases h2; exact hQ Y a' hext hrel
    | ret => cases h2; exact hQ Y a' hext hrel
  | .cond c x y => fun X s a e s' hr h Q hQ => by
    simp only [ev] at h
    have hc := hr.op1 c
    split at h
    case h_2 => cases h
    rename_i p w hs
    rw [hs] at hc
    have hv := z3s hc
    have hr1 : Rel X (s.putSlot (tmpOf c) (bl p)) a := by
      cases c with
      | tmp i =>
        have hsl : s.slot i = [.dat .bool p w] := by
          have hh : one (s.slot i) = .dat .bool p w := hs
          match hm : s.slot i, hh with
          | [sv], hh => have hh' : sv = .dat .bool p w := hh; rw [hh']
          | [], hh => cases hh
          | _ :: _ :: _, hh => cases hh
        exact (hr.know hsl).1
      | _ => exact hr
    refine wp_cond_split hv (fun hp => ?_) (fun hp => ?_)
    · subst hp
      exact z4g hE hm hC hf k x X _ a e s' hr1 h Q hQ
    · subst hp
      exact z4g hE hm hC hf k y X _ a e s' hr1 h Q hQ
  | .block id b => fun X s a e s' hr h Q hQ => by
    simp only [ev] at h
    obtain ⟨⟨e1, s1⟩, h1, h2⟩ := z1x (z5k hC b _ (fun e s => some (e, s)) (K := fun z => match z.1 with
      | .exit j => bif Nat.beq j id then some (.normal, z.2) else some (.exit j, z.2)
      | e => some (e, z.2)) (fun e s => by cases e <;> rfl) s) h
    refine wp_block (z4g hE hm hC hf k b X s a e1 s1 hr h1 _ fun Y a' hext hrel => ?_)
    cases e1 with
    | normal => cases h2; exact hQ Y a' hext hrel
    | ret => cases h2; exact hQ Y a' hext hrel
    | exit j =>
      simp only at h2
      show (if j = id then Q .normal a' Y.w else Q (.exit j) a' Y.w)
      cases hj : Nat.beq j id with
      | true =>
        rw [hj] at h2; cases h2
        rw [if_pos (Nat.eq_of_beq_eq_true hj)]
        exact hQ Y a' hext hrel
      | false =>
        rw [hj] at h2; cases h2
        rw [if_neg (Nat.ne_of_beq_eq_false hj)]
        exact hQ Y a' hext hrel
  | .loop b => fun X s a e s' hr h Q hQ => by
    simp only [ev] at h
    obtain ⟨s1, h, hr1⟩ := z6y (hr.drop _) h
    exact z1m0 _ (z1ln hC (z4g hE hm hC hf k b) (Q := Q) hQ) ⟨X, s1, rfl, Ext.refl X, hr1, h⟩
  | .exit id => fun X s a e s' hr h Q hQ => by
    simp only [ev, Option.some.injEq, Prod.mk.injEq] at h
    obtain ⟨rfl, rfl⟩ := h
    exact wp_exit (hQ X a (Ext.refl X) hr)
  | .ret => fun X s a e s' hr h Q hQ => by
    simp only [ev, Option.some.injEq, Prod.mk.injEq] at h
    obtain ⟨rfl, rfl⟩ := h
    exact wp_ret (hQ X a (Ext.refl X) hr)
  | .rangeFunc .. => fun X s a e s' hr h Q hQ => by simp only [ev] at h; cases h
  | .scope _ => fun X s a e s' hr h Q hQ => by simp only [ev] at h; cases h
  | .label _ => fun X s a e s' hr h Q hQ => by simp only [ev] at h; cases h
  | .goto _ => fun X s a e s' hr h Q hQ => by simp only [ev] at h; cases h
  | .refuse _ => fun X s a e s' hr h Q hQ => by simp only [ev] at h; cases h
end Go.Ref
namespace Go.Ref
open Go
variable {P : Program} {E : Env} {X : Cfg} {s : State} {a : Act}
def StayR (X Y : Cfg) : Prop := Y.w = X.w ∧ ∀ g j p n, X.ow g = .row (.r j p) n → Y.ow g = .row (.r j p) n
theorem StayR.refl (X : Cfg) : StayR X X := ⟨rfl, fun _ _ _ _ h => h⟩
theorem StayR.trans {X Y Z : Cfg} (h : StayR X Y) (k : StayR Y Z) : StayR X Z := ⟨k.1.trans h.1, fun g j p n e => k.2 g j p n (h.2 g j p n e)⟩
theorem RepV.stayR {X Y : Cfg} (h : StayR X Y) (hx : Ext X Y) (hβ : Y.β = X.β) {j : Nat} {sv : SV} {v : Value} (hr : RepV X (.r j) sv v) : RepV Y (.r j) sv v := by
  cases sv with
  | undef => trivial
  | skip => exact hr
  | nilS => exact hr
  | nilP => exact hr
  | over => exact hr
  | dat t x own =>
    obtain ⟨cs, h1, h2, h3⟩ := hr
    refine ⟨cs, h1.mono hx, h2, fun p hp => ?_⟩
    obtain ⟨e, t', xs, v, g0, g1, g2, g3⟩ := h3 p hp
    refine ⟨e, t', xs, v, g0, g1, g2, ?_⟩
    rcases g3 with ho | ⟨g, cap, cur, k1, k2, k3, k4, k5, k6⟩
    · exact .inl ho
    · exact .inr ⟨g, cap, cur, k1, by rw [h.1]; exact k2, k3, k4, k5, h.2 _ _ _ _ k6⟩
  | ptr id t p => obtain ⟨r, h1, h2⟩ := hr; exact ⟨r, by rw [hβ]; exact h1, h2⟩
  | view t x =>
    obtain ⟨ad, cs, h1, h2, h3, h4⟩ := hr
    exact ⟨ad, cs, h1, h2, h3.mono hx, fun i u hi => hx.sees _ _ (h4 i u hi)⟩
  | cap f t x u y => exact z3i hx.sees hr
theorem z1fg {X : Cfg} {i j : Nat} {q : List Nat → Place} : StayR X (X.turn i j q) := ⟨rfl, fun g j p n h => by simp only [Cfg.turn, h]⟩
theorem z1dx {X : Cfg} {id : Nat} {p : List Nat} {q : List Nat → Place} : StayR X (X.turnb id p q) := ⟨rfl, fun g j p n h => by simp only [Cfg.turnb, h]⟩
theorem z12e (hE : EnvOk P E) : ∀ (rs : List ResultVar) (X : Cfg) (s s' : State) (l : List SV) (j0 : Nat), Rel X s a → resOf E s rs = some (l, s') →
    ∃ Y vs, Y.w = X.w ∧ Ext X Y ∧ StayR X Y ∧ Y.β = X.β ∧ Rel Y s' a ∧ vs.length = l.length ∧ (∀ (j : Nat) sv v, l[j]? = some sv → vs[j]? = some v → RepV Y (.r (j0 + j)) sv v) ∧
      (rs.mapM (m := Sem) fun x => match x with
        | .tmp t => pure (a.tmps.getD t Go.undef)
        | .cell ad t => do loadVar t (← asAddr (a.tmps.getD ad Go.undef))).run P X.w = .ok vs X.w
  | [], X, s, s', l, j0, hr, h => by
    simp only [resOf, Option.some.injEq, Prod.mk.injEq] at h
    obtain ⟨rfl, rfl⟩ := h
    exact ⟨X, [], rfl, Ext.refl X, StayR.refl X, rfl, hr, rfl, fun j sv v hl => by simp at hl, by simp⟩
  | .tmp t :: r, X, s, s', l, j0, hr, h => by
    simp only [resOf] at h
    split at h
    case h_2 => cases h
    rename_i l1 s1 h1
    cases h
    -- the value of the slot, taken over
    have key : ∃ Y, Y.w = X.w ∧ Ext X Y ∧ StayR X Y ∧ Y.β = X.β ∧ Rel Y (s.close [(t, 0)]) a ∧ RepV Y (.r j0) (one (s.slot t)) (a.tmps.getD t Go.undef) := by
      have hop := hr.op1 (.tmp t)
      cases hs : one (s.slot t) with
      | dat ty x w =>
        have hop : RepV X (.c t 0) (one (s.slot t)) (a.tmps.getD t Go.undef) := hop
        rw [hs] at hop
        obtain ⟨cs, g1, g2, g3⟩ := hop
        have hT : Turn (s.close [(t, 0)]) X (X.turn t 0 (.r j0)) := z13f fun p => Flag.close
        exact ⟨X.turn t 0 (.r j0), rfl, hT.ext, z1fg, rfl, (hr.close _).mod hT.mod, cs, g1.sees_mono (fun _ _ => hT.sees.1), g2, g3.turned⟩
      | _ =>
        refine ⟨X, rfl, Ext.refl X, StayR.refl X, rfl, hr.close _, ?_⟩
        have hop : RepV X (.c t 0) (one (s.slot t)) (a.tmps.getD t Go.undef) := hop
        rw [hs] at hop
        exact hop
    obtain ⟨Y, hw, hext, hst, hβ, hrel, hrep⟩ := key
    obtain ⟨Z, vs, hw2, hext2, hst2, hβ2, hrel2, hlen, hreps, hrun⟩ := z12e hE r Y _ s' l1 (j0 + 1) hrel h1
    refine ⟨Z, a.tmps.getD t Go.undef :: vs, hw2.trans hw, hext.trans hext2, hst.trans hst2, hβ2.trans hβ, hrel2, by simp [hlen], fun j sv v hl hv => ?_, ?_⟩
    · cases j with
      | zero =>
        simp only [List.getElem?_cons_zero, Option.some.injEq] at hl hv
        subst hl hv
        exact hrep.stayR hst2 hext2 hβ2
      | succ j =>
        simp only [List.getElem?_cons_succ] at hl hv
        rw [show j0 + (j + 1) = j0 + 1 + j by omega]
        exact hreps j sv v hl hv
    · rw [hw] at hrun
      simp only [List.mapM_cons, Sem.run_bind, Sem.run_pure, Result.andThen_ok, hrun]
  | .cell p T :: r, X, s, s', l, j0, hr, h => by
    simp only [resOf] at h
    split at h
    case h_2 => cases h
    rename_i id tt t hsl hT
    split at h
    case h_2 => cases h
    rename_i B hB
    split at h
    case isFalse => cases h
    rename_i heq
    rw [Bool.and_eq_true] at heq
    have hns : tt.isSpc = false := by simpa using heq.2
    have hte := Ty.eqb_eq heq.1
    have hnB : B.t.isSpc = false := hte ▸ hE.notSpc hT
    split at h
    case h_2 => cases h
    rename_i l1 s1 h1
    cases h
    have hb := z2h hB
    obtain ⟨r0, hβ, hBA⟩ := hr.boxes id B hb
    obtain ⟨cs, T', hheap, hrep, how, hown⟩ := hBA.cells hnB
    have hslot := hr.slot p
    rw [hsl] at hslot
    obtain ⟨r1, hβ1, hvp⟩ : RepV X (.c p 0) (.ptr id tt []) (a.tmps.getD p Go.undef) := hslot
    obtain ⟨hv, _⟩ := (z1n hns).1 hvp
    rw [hβ] at hβ1
    cases hβ1
    have hr1 : Rel X (s.putBox (some (id, { B with own := [] }))) a := hr.setBox hb hβ ⟨how, Held.of hnB hheap hrep z1r⟩
    have hnf : ∀ q, ¬ Flag (s.putBox (some (id, { B with own := [] }))) (.b id ([] ++ q)) := by
      rintro q ⟨B2, hB2, hp⟩
      rw [zju hb] at hB2
      cases hB2
      cases hp
    have hT2 := z11g (X := X) (q := .r j0) hnf
    have hrepY : RepV (X.turnb id [] (.r j0)) (.r j0) (.dat B.t B.x B.own) (mkv B.t cs.toList) := by
      refine ⟨cs.toList, hrep.sees_mono (fun _ _ => hT2.sees.1), rfl, fun q hq => ?_⟩
      obtain ⟨e, t', xs, v, g0, g1, g2, g3⟩ := hown q hq
      exact ⟨e, t', xs, v, g0, g1, g2, OwnAt.turnedb (p := []) g3⟩
    obtain ⟨Z, vs, hw2, hext2, hst2, hβ2, hrel2, hlen, hreps, hrun⟩ := z12e hE r (X.turnb id [] (.r j0)) _ s' l1 (j0 + 1) (hr1.mod hT2.mod) h1
    refine ⟨Z, mkv B.t cs.toList :: vs, hw2, hT2.ext.trans hext2, z1dx.trans hst2, hβ2, hrel2, by simp [hlen], fun j sv v hl hv => ?_, ?_⟩
    · cases j with
      | zero =>
        simp only [List.getElem?_cons_zero, Option.some.injEq] at hl hv
        subst hl hv
        exact hrepY.stayR hst2 hext2 hβ2
      | succ j =>
        simp only [List.getElem?_cons_succ] at hl hv
        rw [show j0 + (j + 1) = j0 + 1 + j by omega]
        exact hreps j sv v hl hv
    · have hl := z5n (P := P) hE (hte ▸ hT : E.ty T = some B.t) hrep (ad := ⟨r0, 0, none⟩) (w := X.w) (fun i v hi => by
        rw [z23, Nat.zero_add]
        simp only [World.cell?, hheap]
        simpa using hi)
      have hw3 : (X.turnb id [] (.r j0)).w = X.w := rfl
      rw [hw3] at hrun
      have hv' : a.tmps.getD p Go.undef = .pointer (some ⟨r0, 0, none⟩) := by simpa [Ty.off] using hv
      have ha : (asAddr (.pointer (some ⟨r0, 0, none⟩))).run P X.w = .ok ⟨r0, 0, none⟩ X.w := by simp [asAddr]
      simp only [List.mapM_cons, Sem.run_bind, Sem.run_pure, Result.andThen_ok, hrun, hv', ha, hl]
def Cfg.zero (X : Cfg) (id : Nat) : Cfg :=
  { X with ow := fun g => match X.ow g with
    | .box id' => if id' = id then .box 0 else .box id'
    | .row (.b id' p) n => if id' = id then .row (.b 0 p) n else .row (.b id' p) n
    | w => w }
theorem z64 {id : Nat} {ad : Addr} {v : Value} (h : X.sees ad v) : (X.zero id).sees ad v := by
  refine ⟨h.1, h.2.1, ?_⟩
  have := h.2.2
  simp only [Cfg.zero]
  cases hx : X.ow ad.block with
  | box i => rw [hx] at this; exact this.elim
  | row pl n =>
    rw [hx] at this
    cases pl with
    | b i p => simp only; split <;> exact this
    | _ => exact this
  | _ => rw [hx] at this; exact this
theorem z1wh {id : Nat} : Ext X (X.zero id) where
  sees := fun _ _ => z64
  size := Nat.le_refl _
  os := rfl
  tape := rfl
  output := rfl
  β0 := rfl
  still := fun g _ hst => by
    refine ⟨?_, rfl⟩
    simp only [Cfg.zero]
    cases hx : X.ow g with
    | box i => rw [hx] at hst; exact hst.elim
    | row pl n => rw [hx] at hst; exact hst.elim
    | _ => rfl
theorem BoxAt.zero {id r : Nat} {B : Box} (h : BoxAt X id r B) : BoxAt (X.zero id) 0 r B := by
  obtain ⟨h3, h1⟩ := h
  refine ⟨by simp [Cfg.zero, h3], h1.move (fun _ _ => z64) rfl (fun cs h4 p hp => ?_) fun _ g o ho hw => ⟨ho, by simp [Cfg.zero, hw]⟩⟩
  obtain ⟨e, t', xs, v, g0, g1, g2, g3⟩ := h4 p hp
  refine ⟨e, t', xs, v, g0, g1, g2, ?_⟩
  rcases g3 with ho | ⟨g, cap, cur, k1, k2, k3, k4, k5, k6⟩
  · exact .inl ho
  · exact .inr ⟨g, cap, cur, k1, k2, k3, k4, k5, by simp [Cfg.zero, k6]⟩
theorem RepV.zero {id j r0 : Nat} {sv : SV} {v : Value} (hp : ∀ id' t p, sv = .ptr id' t p → X.β id' = some r0) (h : RepV X (.r j) sv v) : RepV { X.zero id with β := fun _ => some r0 } (.r j) (sv.reptr 0) v := by
  cases sv with
  | undef => trivial
  | skip => exact h
  | nilS => exact h
  | nilP => exact h
  | over => exact h
  | dat t x own =>
    obtain ⟨cs, h1, h2, h3⟩ := h
    refine ⟨cs, Rep.sees_mono (Y := { X.zero id with β := fun _ => some r0 }) (fun ad v hs => (z64 hs : (X.zero id).sees ad v)) h1, h2, fun p hp => ?_⟩
    obtain ⟨e, t', xs, v, g0, g1, g2, g3⟩ := h3 p hp
    refine ⟨e, t', xs, v, g0, g1, g2, ?_⟩
    rcases g3 with ho | ⟨g, cap, cur, k1, k2, k3, k4, k5, k6⟩
    · exact .inl ho
    · exact .inr ⟨g, cap, cur, k1, k2, k3, k4, k5, by simp [Cfg.zero, k6]⟩
  | ptr id' t p =>
    obtain ⟨r, h1, h2⟩ := h
    have := hp id' t p rfl
    rw [h1] at this
    cases this
    exact ⟨r0, rfl, h2⟩
  | view t x =>
    obtain ⟨ad, cs, h1, h2, h3, h4⟩ := h
    exact ⟨ad, cs, h1, h2, Rep.sees_mono (Y := { X.zero id with β := fun _ => some r0 }) (fun ad v hs => (z64 hs : (X.zero id).sees ad v)) h3, fun i u hi => (z64 (h4 i u hi) : (X.zero id).sees _ _)⟩
  | cap f t x u y => exact z3i (Y := { X.zero id with β := fun _ => some r0 }) (fun ad v hs => (z64 hs : (X.zero id).sees ad v)) h
theorem RepV.anyβ {j r0 : Nat} {sv : SV} {v : Value} (hp : ∀ id' t p, sv ≠ .ptr id' t p) (h : RepV X (.r j) sv v) : RepV { X with β := fun _ => some r0 } (.r j) sv v := by
  cases sv with
  | undef => trivial
  | skip => exact h
  | nilS => exact h
  | nilP => exact h
  | over => exact h
  | dat t x own =>
    obtain ⟨cs, h1, h2, h3⟩ := h
    exact ⟨cs, Rep.sees_mono (X := X) (Y := { X with β := fun _ => some r0 }) (fun ad v (hs : X.sees ad v) => (hs : ({ X with β := fun _ => some r0 } : Cfg).sees ad v)) h1, h2, h3⟩
  | ptr id' t p => exact absurd rfl (hp id' t p)
  | view t x =>
    obtain ⟨ad, cs, h1, h2, h3, h4⟩ := h
    exact ⟨ad, cs, h1, h2, Rep.sees_mono (X := X) (Y := { X with β := fun _ => some r0 }) (fun ad v (hs : X.sees ad v) => (hs : ({ X with β := fun _ => some r0 } : Cfg).sees ad v)) h3, h4⟩
  | cap f t x u y => exact z3i (X := X) (Y := { X with β := fun _ => some r0 }) (fun ad v (hs : X.sees ad v) => (hs : ({ X with β := fun _ => some r0 } : Cfg).sees ad v)) h
theorem zjz : ∀ {l : List SV} {id : Nat} {t : Ty} {p : List Nat}, SV.ptr id t p ∈ l → id ∈ z95 l
  | v :: r, id, t, p, h => by
    rcases List.mem_cons.1 h with e | h
    · subst e; simp [z95]
    · have := zjz h
      cases v <;> simp [z95, this]
theorem z121 {l : List SV} {vs : List Value} (hlen : vs.length = l.length) (h : ∀ (j : Nat) sv v, l[j]? = some sv → vs[j]? = some v → RepV X (.r j) sv v) : RepL X .r l (if h : vs.toArray.size = 1 then vs.toArray[0] else .tuple vs.toArray) := by
  match l, vs, hlen with
  | [sv], [v], _ => exact h 0 sv v rfl rfl
  | [], [], _ => exact ⟨#[], rfl, rfl, fun j s u hs => by simp at hs⟩
  | x :: y :: r, u :: v :: w, hlen =>
    refine ⟨(u :: v :: w).toArray, by simp, by simpa using hlen, fun j s z hs hz => h j s z hs (by simpa using hz)⟩
theorem z18d {Z : Cfg} {s' : State} {b : Option Box} {l' r : List SV} {b' : Option Box} {vs : List Value} (hX : Ext X Z) (hrel2 : Rel Z s' a) (hlen : vs.length = l'.length) (hreps' : ∀ (j : Nat) sv v, l'[j]? = some sv → vs[j]? = some v → RepV Z (.r j) sv v)
    (hr2 : zfk s' b l' (fun r b => some (r, b)) = some (r, b')) : ∃ Y', Y'.w = Z.w ∧ Ext X Y' ∧ Leave X Y' b r b' (if h : vs.toArray.size = 1 then vs.toArray[0] else .tuple vs.toArray) := by
  unfold zfk at hr2
  cases b with
  | some B =>
    cases hp : z95 l' with
    | cons _ _ => rw [hp] at hr2; cases hr2
    | nil =>
      rw [hp] at hr2
      have hno : ∀ id t p, SV.ptr id t p ∉ l' := fun id t p hm => by
        have := zjz hm
        rw [hp] at this; cases this
      cases hB' : s'.box 0 with
      | none => simp only [hB'] at hr2; cases hr2
      | some B' =>
        simp only [hB'] at hr2
        cases hr2
        obtain ⟨r0, h3, h4⟩ := hrel2.boxes 0 B' (z2h hB')
        refine ⟨Z, rfl, hX, r0, z121 hlen fun j sv v h1 h2 => (hreps' j sv v h1 h2).anyβ (fun id t p e => hno id t p (e ▸ List.mem_of_getElem? h1)), fun B2 hB2 => ?_, fun _ => hno⟩
        cases hB2
        exact ⟨h4, fun _ => by rw [← hX.β0]; exact h3⟩
  | none =>
    cases hp : z95 l' with
    | nil =>
      rw [hp] at hr2
      have hno : ∀ id t p, SV.ptr id t p ∉ l' := fun id t p hm => by
        have := zjz hm
        rw [hp] at this; cases this
      cases hr2
      exact ⟨Z, rfl, hX, 0, z121 hlen fun j sv v h1 h2 => (hreps' j sv v h1 h2).anyβ (fun id t p e => hno id t p (e ▸ List.mem_of_getElem? h1)), (fun B2 hB2 => by cases hB2), fun _ => hno⟩
    | cons id rest =>
      rw [hp] at hr2
      cases rest with
      | cons _ _ => cases hr2
      | nil =>
        cases hB : s'.box id with
        | none => simp only [hB] at hr2; cases hr2
        | some B =>
          simp only [hB] at hr2
          cases hr2
          obtain ⟨r0, h3, h4⟩ := hrel2.boxes id B (z2h hB)
          refine ⟨Z.zero id, rfl, hX.trans z1wh, r0, ?_, fun B2 hB2 => ?_, fun hh => ?_⟩
          · refine z121 (by simpa using hlen) fun j sv v h1 h2 => ?_
            rw [List.getElem?_map] at h1
            obtain ⟨s0, hs0, rfl⟩ := Option.map_eq_some_iff.1 h1
            refine (hreps' j s0 v hs0 h2).zero fun id' t p e => ?_
            have := zjz (e ▸ List.mem_of_getElem? hs0)
            rw [hp] at this
            simp only [List.mem_singleton] at this
            subst this
            exact h3
          · cases hB2
            exact ⟨h4.zero, fun hh => by cases hh⟩
          · rcases hh with hh | hh <;> cases hh
theorem zdj : ∀ (ts : List Ty) (l : List SV), (normA ts l).length = l.length
  | [], l => by simp [normA]
  | t :: r, [] => by simp [normA]
  | t :: r, v :: q => by
    cases t <;> cases v <;> simp [normA, zdj r q]
theorem z14g {X : Cfg} : ∀ (ts : List Ty) (l : List SV) (i : Nat) (sv : SV) (v : Value), (normA ts l)[i]? = some sv → (∀ sv, l[i]? = some sv → ∃ pl, RepV X pl sv v) → ∀ q, (∃ sv0, l[i]? = some sv0 ∧ (sv = sv0 ∨ sv = sv0.shut ∨ sv0 = .nilS)) ∧ ((∀ sv0, l[i]? = some sv0 → RepV X q sv0 v) → RepV X q sv v)
  | [], l, i, sv, v, h, _, q => by
    have h : l[i]? = some sv := by simpa [normA] using h
    exact ⟨⟨sv, h, .inl rfl⟩, fun hh => hh sv h⟩
  | t :: r, [], i, sv, v, h, _, q => by simp [normA] at h
  | t :: r, x :: y, i, sv, v, h, hx, q => by
    cases i with
    | zero =>
      have key : (normA (t :: r) (x :: y))[0]? = some sv → (sv = x.shut) ∨ (x = .nilS ∧ ∃ e u, sv = .dat (.sl e u) ([] : List (El u)) []) := by
        intro h
        cases t <;> cases x <;> simp only [normA, List.getElem?_cons_zero, Option.some.injEq] at h <;> first | exact .inl h.symm | exact .inr ⟨rfl, _, _, h.symm⟩
      rcases key h with rfl | ⟨rfl, e, u, rfl⟩
      · exact ⟨⟨x, rfl, .inr (.inl rfl)⟩, fun hh => (hh x rfl).shut⟩
      · refine ⟨⟨_, rfl, .inr (.inr rfl)⟩, fun hh => ?_⟩
        have := hh _ rfl
        exact ⟨[.slice none 0 0], ⟨none, 0, rfl, Nat.le_refl _, fun j x hj => by simp at hj⟩, this, z1r⟩
    | succ i =>
      have h' : (normA r y)[i]? = some sv := by
        cases t <;> cases x <;> simpa [normA] using h
      have := z14g r y i sv v h' (fun sv hs => hx sv (by simpa using hs)) q
      simpa using this
theorem z1pw {ts : List Ty} {l : List SV} {id : Nat} {t : Ty} {p : List Nat} (h : SV.ptr id t p ∈ normA ts l) : SV.ptr id t p ∈ l := by
  induction ts generalizing l with
  | nil => simpa [normA] using h
  | cons u r ih =>
    cases l with
    | nil => simp [normA] at h
    | cons v q =>
      have key : SV.ptr id t p = v.shut ∨ SV.ptr id t p ∈ normA r q := by
        cases u <;> cases v <;> simp [normA, SV.shut] at h ⊢ <;> first | exact h | exact .inr h | skip
      rcases key with e | hm
      · rw [zk8 e.symm]; simp
      · exact List.mem_cons_of_mem _ (ih hm)
theorem z224 (hE : EnvOk P E) (hm : P.follows .mixedOrders = true) {C C0 : Funs} (hC0 : C0.Nat) (hf0 : ∀ f, Owes P C0 f) {f : FuncId} {fn : Func} {code : Code} (hfn : P.funcs[f]? = some fn) (hname : (fn.name == "runtime.NumGoroutine") = false) (hbody : fn.body = some code)
    (hC : ∀ (l : List SV) (b : Option Box) (r : List SV) (b' : Option Box), C (List SV × Option Box) f l b (fun r b => some (r, b)) = some (r, b') → ∃ k, evFn E (C0 (List SV × Option Box)) k fn code l b (fun r b => some (r, b)) = some (r, b')) : Owes P C f := by
  intro l b r b' h
  refine ⟨⟨fn, code, hfn, hname, hbody⟩, fun X args hen => ?_⟩
  obtain ⟨k, h⟩ := hC l b r b' h
  unfold evFn at h
  simp only at h
  obtain ⟨⟨e, s⟩, h1, h2⟩ := z1x (z5k hC0 code _ (fun e s => some (e, s)) (K := fun z => match z.1 with
    | .exit _ => none
    | _ => match resOf E z.2 fn.results.toList with
      | some (l, s') => zfk s' b (outs' E l) (fun r b => some (r, b))
      | none => none) (fun e s => by cases e <;> rfl) _) h
  refine calls_of_wp hfn hbody ?_
  -- the frame that is entered
  have hsz := hen.size
  refine z4g hE hm hC0 hf0 k code X _ _ e s (?_ : Rel X _ _) h1 _ fun Y a' hext hrel => ?_
  · have hnl := zdj E.ps l
    refine ⟨by simp [hsz, hnl], by simp [hnl], fun i sl v hs hv => ?_, fun id B hB => ?_, fun i sl id t p hs hm => ?_, rfl⟩
    · by_cases hi : i < l.length
      · rw [List.getElem?_append_left (by simpa [hnl] using hi), List.getElem?_map] at hs
        obtain ⟨sv, hsv, rfl⟩ := Option.map_eq_some_iff.1 hs
        rw [Array.getElem?_append_left (by omega)] at hv
        exact (z14g E.ps l i sv v hsv (fun sv h0 => ⟨_, hen.rep i sv v h0 hv⟩) (.c i 0)).2 fun sv0 h0 => hen.rep i sv0 v h0 hv
      · rw [List.getElem?_append_right (by simp [hnl]; omega), List.getElem?_replicate] at hs
        split at hs
        · cases hs; trivial
        · cases hs
    · cases id with
      | zero =>
        simp only [List.getElem?_cons_zero, Option.some.injEq] at hB
        exact hen.box B hB
      | succ id =>
        simp only [List.getElem?_cons_succ, List.getElem?_replicate] at hB
        split at hB <;> cases hB
    · by_cases hi : i < l.length
      · rw [List.getElem?_append_left (by simpa [hnl] using hi), List.getElem?_map] at hs
        obtain ⟨sv, hsv, rfl⟩ := Option.map_eq_some_iff.1 hs
        simp only [List.mem_singleton] at hm
        subst hm
        obtain ⟨rfl, hb⟩ := hen.ptr id t p (z1pw (List.mem_of_getElem? hsv))
        cases b with
        | none => cases hb
        | some B => exact ⟨B, rfl⟩
      · rw [List.getElem?_append_right (by simp [hnl]; omega), List.getElem?_replicate] at hs
        split at hs
        · cases hs; simp at hm
        · cases hs
  · -- what is answered
    have hres : ∃ l s', resOf E s fn.results.toList = some (l, s') ∧ zfk s' b (outs' E l) (fun r b => some (r, b)) = some (r, b') ∧ (e = .normal ∨ e = .ret) := by
      cases e with
      | exit id => cases h2
      | normal =>
        simp only at h2
        split at h2
        · exact ⟨_, _, by assumption, h2, .inl rfl⟩
        · cases h2
      | ret =>
        simp only at h2
        split at h2
        · exact ⟨_, _, by assumption, h2, .inr rfl⟩
        · cases h2
    obtain ⟨l', s', hr1, hr2, he⟩ := hres
    obtain ⟨Z, vs, hw, hext2, hst, hβ, hrel2, hlen, hreps, hrun⟩ := z12e hE fn.results.toList Y s s' l' 0 hrel hr1
    have hrun2 : (results fn a'.tmps).run P Y.w = .ok (if h : vs.toArray.size = 1 then vs.toArray[0] else .tuple vs.toArray) Y.w := by
      unfold results
      simp only [Array.mapM_eq_mapM_toList, Sem.run_bind, Sem.run_map, Sem.run_pure, Result.andThen_ok]
      exact congrArg (fun r : Result (List Value) => (r.andThen fun a w' => Result.ok a.toArray w').andThen fun a w' => Result.ok (if h : a.size = 1 then a[0] else Value.tuple a) w') hrun
    have hX : Ext X Z := hext.trans hext2
    have hreps' : ∀ (j : Nat) sv v, l'[j]? = some sv → vs[j]? = some v → RepV Z (.r j) sv v := fun j sv v h1 h2 => by
      have := hreps j sv v h1 h2
      rwa [Nat.zero_add] at this
    have hlen' : vs.length = (outs' E l').length := by
      unfold outs'
      cases E.ro <;> simpa using hlen
    have hreps2 : ∀ (j : Nat) sv v, (outs' E l')[j]? = some sv → vs[j]? = some v → RepV Z (.r j) sv v := fun j sv v h1 h2 => by
      unfold outs' at h1
      cases hro : E.ro with
      | false => rw [hro] at h1; exact hreps' j sv v h1 h2
      | true =>
        rw [hro, cond_true, List.getElem?_map] at h1
        obtain ⟨s0, hs0, rfl⟩ := Option.map_eq_some_iff.1 h1
        exact RepV.shuts (hreps' j s0 v hs0 h2)
    have fin := z18d (b := b) hX hrel2 hlen' hreps2 hr2
    obtain ⟨Y', hw', hX', hL⟩ := fin
    have hw' := hw'.trans hw
    rcases he with rfl | rfl
    · exact ⟨hrel.defers, _, hrun2, Y', hw', hX', hL⟩
    · exact ⟨hrel.defers, _, hrun2, Y', hw', hX', hL⟩
end Go.Ref
namespace Go.Ref
open Go
variable {P : Program} {E : Env}
def Wf : (t : Ty) → El t → Prop
  | .bool, _ => True
  | .int k, n => (Lit.int k n).wf = true
  | .str, s => s.size ≤ maxLen
  | .sl _ t, xs => List.length xs ≤ maxLen ∧ ∀ x ∈ (xs : List (El t)), Wf t x
  | .arr n t, xs => List.length xs = n ∧ ∀ x ∈ (xs : List (El t)), Wf t x
  | .unit, _ => True
  | .pair a b, x => Wf a x.1 ∧ Wf b x.2
  | .spc _ _ _, _ => False
theorem z4m (hE : EnvOk P E) {T : TypeId} {t : Ty} (ht : E.ty T = some t) : P.cellsOf T = t.cells := by
  obtain ⟨i, h1, h2, _⟩ := (hE.ty T t ht).info
  simp [Program.cellsOf, h1, h2]
def Ty.solid : Ty → Bool
  | .sl _ t => !(Nat.beq t.cells 0) && t.solid
  | .arr _ t => t.solid
  | .pair a b => a.solid && b.solid
  | _ => true
def z3m (w : World) (β : Nat → Option Nat) : Cfg := ⟨w, fun _ => .all, β⟩
theorem z1oj {w : World} {β : Nat → Option Nat} {a : Addr} {v : Value} (h : w.cell? a = some v) : (z3m w β).sees a v := ⟨World.cell?_spot h, h, trivial⟩
theorem zxa {α : Type} {n : Nat} {p : Nat → α → Prop} (h : ∀ i, i < n → ∃ x, p i x) : ∃ xs : List α, xs.length = n ∧ ∀ (i : Nat) x, xs[i]? = some x → p i x := by
  induction n with
  | zero => exact ⟨[], rfl, fun i x hi => by simp at hi⟩
  | succ n ih =>
    obtain ⟨xs, h1, h2⟩ := ih fun i hi => h i (by omega)
    obtain ⟨y, hy⟩ := h n (by omega)
    refine ⟨xs ++ [y], by simp [h1], fun i x hi => ?_⟩
    rw [List.getElem?_append] at hi
    split at hi
    · exact h2 i x hi
    · rename_i hlt
      have hi2 : i - xs.length = 0 := by
        have := (List.getElem?_eq_some_iff.1 hi).1
        simp at this
        omega
      rw [hi2] at hi
      simp only [List.getElem?_cons_zero, Option.some.injEq] at hi
      subst hi
      have : i = n := by omega
      subst this
      exact hy
section
variable {H : Type} {enc : TypeId × Value → H} {w : World} {base : Nat} {spare : Nat → Bool} {held : Bool} {β : Nat → Option Nat}
theorem z1yh (hE : EnvOk P E) : ∀ t : Ty,
    (∀ (T : TypeId) (fuel : Nat) (cs : List Value) (x : DataW H × List MemPlace), E.ty T = some t → t.solid = true → DataW.trod enc P w base spare held fuel T cs = some x → ∃ y : El t, Rep (z3m w β) t y cs ∧ Wf t y) ∧
    (∀ (fl : List Field) (off fuel : Nat) (cs : List Value), z1k E fl t off → t.solid = true → off + t.cells ≤ cs.length → (∀ f ∈ fl, ∃ x, DataW.trod enc P w base spare held fuel f.type ((cs.drop f.offset).take (P.cellsOf f.type)) = some x) →
      ∃ y : El t, Rep (z3m w β) t y ((cs.drop off).take t.cells) ∧ Wf t y) := by
  intro t
  have noFld : ∀ {t : Ty}, t.isPair = false → t ≠ .unit → ∀ (fl : List Field) (off : Nat), ¬ z1k E fl t off := by
    intro t h1 h2 fl off h
    cases t <;> cases fl <;> simp_all [z1k, Ty.isPair]
  induction t with
  | spc k a b _ _ => exact ⟨fun T fuel cs x hT hso h => absurd (hE.notSpc hT) (by simp [Ty.isSpc]), fun fl off fuel cs hf => absurd hf (noFld rfl (by simp) fl off)⟩
  | bool =>
    refine ⟨fun T fuel cs x hT hso h => ?_, fun fl off fuel cs hf => absurd hf (noFld rfl (by simp) fl off)⟩
    have hu := (hE.ty T _ hT).und
    cases fuel with
    | zero => simp [DataW.trod] at h
    | succ m =>
      unfold DataW.trod at h
      rw [hu] at h
      split at h <;> try (first | cases h; done | (simp_all; done))
      rename_i b _
      exact ⟨b, rfl, trivial⟩
  | int k =>
    refine ⟨fun T fuel cs x hT hso h => ?_, fun fl off fuel cs hf => absurd hf (noFld rfl (by simp) fl off)⟩
    have hu := (hE.ty T _ hT).und
    cases fuel with
    | zero => simp [DataW.trod] at h
    | succ m =>
      unfold DataW.trod at h
      rw [hu] at h
      split at h <;> simp_all
      rename_i k1 k2 n hk
      subst hk
      exact ⟨n, rfl, h.1.2⟩
  | str =>
    refine ⟨fun T fuel cs x hT hso h => ?_, fun fl off fuel cs hf => absurd hf (noFld rfl (by simp) fl off)⟩
    have hu := (hE.ty T _ hT).und
    cases fuel with
    | zero => simp [DataW.trod] at h
    | succ m =>
      unfold DataW.trod at h
      rw [hu] at h
      split at h <;> simp_all
      rename_i s
      exact ⟨s, rfl, h.1⟩
  | sl e t ih =>
    refine ⟨fun T fuel cs x hT hso h => ?_, fun fl off fuel cs hf => absurd hf (noFld rfl (by simp) fl off)⟩
    obtain ⟨hu, he⟩ := (hE.ty T _ hT).und
    have hc := z4m hE he
    rcases Go.Deep.open_slice hu h with ⟨rfl, _⟩ | ⟨a, len, cap, m, n, D, Pl, rfl, hb, hl, hm, hmm, _, hel⟩
    · exact ⟨[], ⟨none, 0, rfl, Nat.le_refl _, fun j x hj => by simp at hj⟩, by simp [maxLen], fun x hx => by cases hx⟩
    · have hlm : len ≤ m := by rw [hmm]; split <;> omega
      have hk : 0 < t.cells ∧ t.solid = true := by
        simp only [Ty.solid, Bool.and_eq_true, Bool.not_eq_true'] at hso
        refine ⟨?_, hso.2⟩
        rcases Nat.eq_zero_or_pos t.cells with h0 | h0
        · rw [h0] at hso; simp at hso
        · exact h0
      obtain ⟨ys, h1, h2⟩ := zxa (n := len) (p := fun i (y : El t) => ∃ cs', w.cells? base (a.add (i * t.cells)) t.cells = some cs' ∧ Rep (z3m w β) t y cs' ∧ Wf t y) (fun i hi => by
        obtain ⟨cs', g1, g2⟩ := hel i (by omega)
        rw [hc] at g1
        obtain ⟨y, k1, k2⟩ := ih.1 e n cs' _ he hk.2 g2
        exact ⟨y, cs', g1, k1, k2⟩)
      refine ⟨ys, Rep.slmk h1 hl (fun j y hj => ?_), by show ys.length ≤ _; omega, fun y hy => ?_⟩
      · obtain ⟨cs', g1, g2, g3⟩ := h2 j y hj
        obtain ⟨_, hlen, hcell⟩ := World.cells?_some g1
        have hj0 := (List.getElem?_eq_some_iff.1 hj).1
        obtain ⟨c0, e1, _⟩ := h2 0 _ (List.getElem?_eq_getElem (by omega))
        obtain ⟨_, hlen0, hcell0⟩ := World.cells?_some e1
        have hspot : a.spot = none := by
          have := hcell0 0 (by omega)
          rw [List.getElem?_eq_getElem (by omega)] at this
          have h3 := World.cell?_spot this
          simpa [Addr.add] using h3
        refine ⟨a, cs', rfl, hspot, g2, fun i v hi => z1oj ?_⟩
        have hil := (List.getElem?_eq_some_iff.1 hi).1
        have := hcell i (by omega)
        rw [zgt a hspot, hi] at this
        exact this
      · obtain ⟨i, hi⟩ := List.mem_iff_getElem?.1 hy
        obtain ⟨cs', _, _, g3⟩ := h2 i y hi
        exact g3
  | arr n t ih =>
    refine ⟨fun T fuel cs x hT hso h => ?_, fun fl off fuel cs hf => absurd hf (noFld rfl (by simp) fl off)⟩
    obtain ⟨e, hu, he, _⟩ := (hE.ty T _ hT).und
    have hc := z4m hE he
    have hcT := z4m hE hT
    obtain ⟨xs, m, rfl, _, hl, hxl, hel⟩ := DataW.trod_array hu h
    obtain ⟨ys, h1, h2⟩ := zxa (n := n) (p := fun i (y : El t) => Rep (z3m w β) t y ((cs.drop (i * t.cells)).take t.cells) ∧ Wf t y) (fun i hi => by
      have g := hel i hi
      rw [hc, List.getElem?_eq_getElem (by omega)] at g
      exact ih.1 e m _ _ he hso g)
    refine ⟨ys, ⟨h1, by rw [hl, hcT]; rfl, fun j y hj => (h2 j y hj).1⟩, h1, fun y hy => ?_⟩
    obtain ⟨i, hi⟩ := List.mem_iff_getElem?.1 hy
    exact (h2 i y hi).2
  | unit =>
    refine ⟨fun T fuel cs x hT hso h => ?_, fun fl off fuel cs hf hso hle hall => ⟨(), by simp [Ty.cells, Rep], trivial⟩⟩
    obtain ⟨fs, hu, hfit, _⟩ := (hE.ty T _ hT).und
    have hcT := z4m hE hT
    obtain ⟨xs, m, rfl, _, hl, _⟩ := DataW.trod_struct hu h
    rw [hcT] at hl
    refine ⟨(), ?_, trivial⟩
    exact List.eq_nil_of_length_eq_zero hl
  | pair ta tb iha ihb =>
    have step : ∀ (fl : List Field) (off fuel : Nat) (cs : List Value), z1k E fl (.pair ta tb) off → (Ty.pair ta tb).solid = true → off + (Ty.pair ta tb).cells ≤ cs.length → (∀ f ∈ fl, ∃ x, DataW.trod enc P w base spare held fuel f.type ((cs.drop f.offset).take (P.cellsOf f.type)) = some x) →
        ∃ y : El (.pair ta tb), Rep (z3m w β) (.pair ta tb) y ((cs.drop off).take (Ty.pair ta tb).cells) ∧ Wf (.pair ta tb) y := by
      intro fl off fuel cs hf hso hle hall
      cases fl with
      | nil => simp [z1k] at hf
      | cons f fl =>
        obtain ⟨f1, f2, f3, f4⟩ := hf
        simp only [Ty.solid, Bool.and_eq_true] at hso
        simp only [Ty.cells] at hle
        obtain ⟨x, hx⟩ := hall f (by simp)
        rw [z4m hE f2, f1] at hx
        obtain ⟨y1, r1, w1⟩ := iha.1 f.type fuel _ x f2 hso.1 hx
        obtain ⟨y2, r2, w2⟩ := ihb.2 fl (off + ta.cells) fuel cs f4 hso.2 (by omega) (fun g hg => hall g (List.mem_cons_of_mem _ hg))
        refine ⟨(y1, y2), ⟨_, _, ?_, r1, r2⟩, w1, w2⟩
        simp only [Ty.cells]
        rw [← List.drop_drop]
        exact List.take_add
    refine ⟨fun T fuel cs x hT hso h => ?_, step⟩
    obtain ⟨fs, hu, hfit, _⟩ := (hE.ty T _ hT).und
    have hcT := z4m hE hT
    obtain ⟨xs, m, rfl, _, hl, hxl, hel⟩ := DataW.trod_struct hu h
    rw [hcT] at hl
    obtain ⟨y, r, wf⟩ := step fs.toList 0 m cs hfit hso (by omega) (fun f hf => by
      obtain ⟨i, hi⟩ := List.mem_iff_getElem?.1 hf
      have hi' : fs[i]? = some f := by simpa using hi
      have := hel i f hi'
      have hlt := (List.getElem?_eq_some_iff.1 hi).1
      rw [List.getElem?_eq_getElem (by simp at hlt; omega)] at this
      exact ⟨_, this⟩)
    refine ⟨y, ?_, wf⟩
    rw [List.drop_zero, ← hl, List.take_length] at r
    exact r
end
end Go.Ref
namespace Go.Ref
open Go
variable {P : Program} {E : Env}
def z1d6 : Value → Value → Bool
  | .bool a, .bool b => a == b
  | .int k a, .int j b => decide (k = j) && decide (a = b)
  | .string a, .string b => Nat.beq a.size 0 && Nat.beq b.size 0
  | .slice none 0 0, .slice none 0 0 => true
  | _, _ => false
theorem zwk {a : ByteArray} (h : a.size = 0) : a = ⟨#[]⟩ := by
  cases a with
  | mk d =>
    have : d.size = 0 := h
    have := Array.eq_empty_of_size_eq_zero this
    rw [this]
theorem z1ly {a b : Value} (h : z1d6 a b = true) : a = b := by
  unfold z1d6 at h
  split at h
  · simp at h; rw [h]
  · simp at h; rw [h.1, h.2]
  · simp only [Bool.and_eq_true] at h
    rw [zwk (Nat.eq_of_beq_eq_true h.1), zwk (Nat.eq_of_beq_eq_true h.2)]
  · rfl
  · cases h
def zf4 : List Value → List Value → Bool
  | [], [] => true
  | a :: r, b :: q => z1d6 a b && zf4 r q
  | _, _ => false
theorem zjq : ∀ {a b : List Value}, zf4 a b = true → a = b
  | [], [], _ => rfl
  | a :: r, b :: q, h => by
    simp only [zf4, Bool.and_eq_true] at h
    rw [z1ly h.1, zjq h.2]
def z16q (t : Ty) (v : Value) : Bool :=
  match v with
  | .agg cs => t.agg && zf4 cs.toList (zx t)
  | v => !t.agg && zf4 [v] (zx t)
theorem z1jr {t : Ty} {v : Value} (h : z16q t v = true) : v = mkv t (zx t) := by
  unfold z16q at h
  split at h
  · simp only [Bool.and_eq_true] at h
    rw [z1b h.1, ← zjq h.2]
  · simp only [Bool.and_eq_true, Bool.not_eq_true'] at h
    rw [← zjq h.2, ze2 h.1]
def fldB (E : Env) : List Field → Ty → Nat → Bool
  | [], .unit, _ => true
  | f :: r, .pair a b, off => Nat.beq f.offset off && ((match E.ty f.type with
    | some t => t.eqb a
    | none => false) && (!(f.name == "_") && fldB E r b (off + a.cells)))
  | _, _, _ => false
theorem zy5 : ∀ {fl : List Field} {t : Ty} {off : Nat}, fldB E fl t off = true → z1k E fl t off
  | [], t, off, h => by cases t <;> simp_all [fldB, z1k]
  | f :: r, t, off, h => by
    cases t <;> simp only [fldB, Bool.and_eq_true] at h <;> try (cases h; done)
    obtain ⟨h1, h2, h3, h4⟩ := h
    refine ⟨Nat.eq_of_beq_eq_true h1, ?_, ?_, zy5 h4⟩
    · cases hf : E.ty f.type with
      | none => rw [hf] at h2; cases h2
      | some u => rw [hf] at h2; rw [Ty.eqb_eq h2]
    · simpa using h3
def tyIs (E : Env) (T : TypeId) (t : Ty) : Bool :=
  match E.ty T with
  | some u => u.eqb t
  | none => false
theorem z1em {T : TypeId} {t : Ty} (h : tyIs E T t = true) : E.ty T = some t := by
  unfold tyIs at h
  split at h
  · rename_i u hu; rw [hu, Ty.eqb_eq h]
  · cases h
def undB (P : Program) (E : Env) (T : TypeId) (t : Ty) : Bool :=
  match P.underlying T, t with
  | some .bool, .bool => true
  | some (.int k), .int j => decide (k = j)
  | some .string, .str => true
  | some (.slice e), .sl e' u => Nat.beq e e' && tyIs E e u
  | some (.array n e), .arr m u => Nat.beq n m && (tyIs E e u && !P.eqGuardType P.depth T)
  | some (.struct fs), .unit => fldB E fs.toList .unit 0 && (!P.stoodInHeld T && !P.eqGuardType P.depth T)
  | some (.struct fs), .pair a b => fldB E fs.toList (.pair a b) 0 && (!P.stoodInHeld T && !P.eqGuardType P.depth T)
  | _, _ => false
theorem z1v3 {T : TypeId} {t : Ty} (h : undB P E T t = true) : z1qw P E T t := by
  unfold undB at h
  split at h
  · assumption
  · rename_i k j hu; rw [← of_decide_eq_true h]; exact hu
  · assumption
  · rename_i e e' u hu
    simp only [Bool.and_eq_true] at h
    have := Nat.eq_of_beq_eq_true h.1
    subst this
    exact ⟨hu, z1em h.2⟩
  · rename_i n e m u hu
    simp only [Bool.and_eq_true] at h
    have := Nat.eq_of_beq_eq_true h.1
    subst this
    exact ⟨e, hu, z1em h.2.1, by simpa using h.2.2⟩
  · rename_i fs hu
    simp only [Bool.and_eq_true, Bool.not_eq_true'] at h
    exact ⟨fs, hu, zy5 h.1, h.2.1, h.2.2⟩
  · rename_i fs a b hu
    simp only [Bool.and_eq_true, Bool.not_eq_true'] at h
    exact ⟨fs, hu, zy5 h.1, h.2.1, h.2.2⟩
  · cases h
def infoB (P : Program) (E : Env) (T : TypeId) (t : Ty) : Bool :=
  match P.info? T with
  | some i => Nat.beq i.size t.cells && (Nat.beq i.bytes (E.bytes T) && match i.zero with
    | some v => z16q t v
    | none => false)
  | none => false
def fitB (P : Program) (E : Env) (T : TypeId) : Bool :=
  match E.ty T with
  | some t => infoB P E T t && undB P E T t
  | none => true
theorem z1wd {T : TypeId} {t : Ty} (h : fitB P E T = true) (ht : E.ty T = some t) : TyFits P E T t := by
  unfold fitB at h
  rw [ht] at h
  simp only [Bool.and_eq_true] at h
  refine ⟨?_, z1v3 h.2⟩
  have h1 := h.1
  unfold infoB at h1
  split at h1
  · rename_i i hi
    simp only [Bool.and_eq_true] at h1
    obtain ⟨g1, g2, g3⟩ := h1
    split at g3
    · rename_i v hv
      exact ⟨i, hi, Nat.eq_of_beq_eq_true g1, Nat.eq_of_beq_eq_true g2, by rw [hv, z1jr g3]⟩
    · cases g3
  · cases h1
def ptB (P : Program) (T : TypeId) : Bool :=
  match P.underlying T with
  | some (.pointer _) => true
  | _ => false
structure Tab where
  tys : List (Option Ty)
  bts : List Nat
  pts : List Bool
  mps : List (TypeId × TypeId × TypeId) := []
def mpOf : List (TypeId × TypeId × TypeId) → TypeId → Option (TypeId × TypeId)
  | [], _ => none
  | q :: r, T => bif Nat.beq q.1 T then some q.2 else mpOf r T
def mpB (P : Program) (q : TypeId × TypeId × TypeId) : Bool :=
  match P.underlying q.1 with
  | some (.map k e) => Nat.beq k q.2.1 && Nat.beq e q.2.2
  | _ => false
theorem z1f1 {P : Program} : ∀ {l : List (TypeId × TypeId × TypeId)}, l.all (mpB P) = true → ∀ {T k e : TypeId}, mpOf l T = some (k, e) → P.underlying T = some (.map k e)
  | q :: r, hl, T, k, e, h => by
    simp only [List.all_cons, Bool.and_eq_true] at hl
    unfold mpOf at h
    cases hq : Nat.beq q.1 T with
    | false => rw [hq] at h; exact z1f1 hl.2 h
    | true =>
      rw [hq] at h
      have := Nat.eq_of_beq_eq_true hq
      subst this
      have h1 := hl.1
      unfold mpB at h1
      split at h1
      · rename_i k' e' hu
        simp only [Bool.and_eq_true] at h1
        have a1 := Nat.eq_of_beq_eq_true h1.1
        have a2 := Nat.eq_of_beq_eq_true h1.2
        rw [hu, a1, a2]
        have h : some q.2 = some (k, e) := h
        injection h with h
        rw [h]
      · cases h1
def Tab.env (t : Tab) (keep keepX : Nat → List Nat) (outs : List Nat) (ps : List Ty) : Env := ⟨fun T => t.tys.getD T none, fun T => t.bts.getD T 0, fun T => t.pts.getD T false, keep, keepX, outs, ps, mpOf t.mps, fun _ => none, fun _ => none, fun _ => [], [], false, [], fun _ => [], fun _ => none⟩
def Tab.env0 (t : Tab) : Env := t.env (fun _ => []) (fun _ => []) [] []
def Tab.ok (P : Program) (t : Tab) : Bool := (List.range t.tys.length).all (fitB P t.env0) && ((List.range t.pts.length).all (fun T => !t.pts.getD T false || ptB P T) && t.mps.all (mpB P))
theorem z3o {E' : Env} (h1 : E.ty = E'.ty) (h2 : E.bytes = E'.bytes) {T : TypeId} {t : Ty} (h : TyFits P E T t) : TyFits P E' T t := by
  have hfit : ∀ (fl : List Field) (t : Ty) (off : Nat), z1k E fl t off → z1k E' fl t off := by
    intro fl
    induction fl with
    | nil => intro t off h; cases t <;> simp_all [z1k]
    | cons f r ih =>
      intro t off h
      cases t <;> simp only [z1k] at h ⊢ <;> try exact h
      exact ⟨h.1, by rw [← h1]; exact h.2.1, h.2.2.1, ih _ _ h.2.2.2⟩
  refine ⟨by rw [← h2]; exact h.info, ?_⟩
  have hu := h.und
  cases t with
  | bool => exact hu
  | int k => exact hu
  | str => exact hu
  | sl e u => exact ⟨hu.1, by rw [← h1]; exact hu.2⟩
  | arr n u => obtain ⟨e, g1, g2⟩ := hu; exact ⟨e, g1, by rw [← h1]; exact g2⟩
  | unit => obtain ⟨fs, g1, g2, g3⟩ := hu; exact ⟨fs, g1, hfit _ _ _ g2, g3⟩
  | pair a b => obtain ⟨fs, g1, g2, g3⟩ := hu; exact ⟨fs, g1, hfit _ _ _ g2, g3⟩
  | spc k a b => exact hu.elim
theorem EnvOk.join (h : EnvOk P E) (j : Nat → Option (List Nat)) : EnvOk P { E with join := j } :=
  ⟨fun T u hT => z3o (E := E) (E' := { E with join := j }) rfl rfl (h.ty T u hT), h.pt, h.mp, h.bl⟩
theorem EnvOk.fz (h : EnvOk P E) (j : Nat → Option (Nat × TypeId)) : EnvOk P { E with fz := j } :=
  ⟨fun T u hT => z3o (E := E) (E' := { E with fz := j }) rfl rfl (h.ty T u hT), h.pt, h.mp, h.bl⟩
theorem EnvOk.dr (h : EnvOk P E) (j : Nat → List Nat) : EnvOk P { E with dr := j } :=
  ⟨fun T u hT => z3o (E := E) (E' := { E with dr := j }) rfl rfl (h.ty T u hT), h.pt, h.mp, h.bl⟩
theorem EnvOk.sh (h : EnvOk P E) (j : List Nat) : EnvOk P { E with sh := j } :=
  ⟨fun T u hT => z3o (E := E) (E' := { E with sh := j }) rfl rfl (h.ty T u hT), h.pt, h.mp, h.bl⟩
theorem EnvOk.mv (h : EnvOk P E) (j : List Nat) : EnvOk P { E with mv := j } :=
  ⟨fun T u hT => z3o (E := E) (E' := { E with mv := j }) rfl rfl (h.ty T u hT), h.pt, h.mp, h.bl⟩
theorem EnvOk.fr (h : EnvOk P E) (j : Nat → List Nat) : EnvOk P { E with fr := j } :=
  ⟨fun T u hT => z3o (E := E) (E' := { E with fr := j }) rfl rfl (h.ty T u hT), h.pt, h.mp, h.bl⟩
def blB (P : Program) (T : TypeId) : Bool :=
  match P.info? T with
  | some i => match i.zero with
    | some (.agg a) => match a.toList with
      | [.pointer none, .slice none 0 0] => true
      | _ => false
    | _ => false
  | none => false
theorem EnvOk.bld (h : EnvOk P E) (T e : TypeId) (hT : blB P T = true) : EnvOk P { E with bl := fun t => bif Nat.beq t T then some e else none } :=
  ⟨fun T' u hT => z3o (E := E) (E' := { E with bl := fun t => bif Nat.beq t T then some e else none }) rfl rfl (h.ty T' u hT), h.pt, h.mp, fun T' e' he => by
    have he : (bif Nat.beq T' T then some e else none) = some e' := he
    cases hb : Nat.beq T' T with
    | false => rw [hb] at he; cases he
    | true =>
      have := Nat.eq_of_beq_eq_true hb
      subst this
      unfold blB at hT
      split at hT
      case h_2 => cases hT
      rename_i i hi
      split at hT
      case h_2 => cases hT
      rename_i a ha
      split at hT
      case h_2 => cases hT
      rename_i hl
      exact ⟨i, hi, by rw [ha]; congr 1; congr 1; apply Array.ext'; rw [hl]⟩⟩
theorem EnvOk.ro (h : EnvOk P E) (j : Bool) : EnvOk P { E with ro := j } :=
  ⟨fun T u hT => z3o (E := E) (E' := { E with ro := j }) rfl rfl (h.ty T u hT), h.pt, h.mp, h.bl⟩
theorem Tab.env_ok {t : Tab} (h : t.ok P = true) (keep keepX : Nat → List Nat) (outs : List Nat) (ps : List Ty) : EnvOk P (t.env keep keepX outs ps) := by
  unfold Tab.ok at h
  simp only [Bool.and_eq_true] at h
  refine ⟨fun T u hT => ?_, fun T hT => ?_, fun T k e hT => z1f1 h.2.2 hT, fun T e hT => by cases hT⟩
  · refine z3o (E := t.env0) (E' := t.env keep keepX outs ps) rfl rfl (z1wd ?_ hT)
    refine List.all_eq_true.1 h.1 T (List.mem_range.2 ?_)
    have hT' : t.tys.getD T none = some u := hT
    rcases Nat.lt_or_ge T t.tys.length with h1 | h1
    · exact h1
    · rw [List.getD_eq_getElem?_getD, List.getElem?_eq_none h1] at hT'; cases hT'
  · have hT' : t.pts.getD T false = true := hT
    have hlt : T < t.pts.length := by
      rcases Nat.lt_or_ge T t.pts.length with h1 | h1
      · exact h1
      · rw [List.getD_eq_getElem?_getD, List.getElem?_eq_none h1] at hT'; cases hT'
    have := List.all_eq_true.1 h.2.1 T (List.mem_range.2 hlt)
    rw [hT'] at this
    simp only [Bool.not_true, Bool.false_or] at this
    unfold ptB at this
    split at this
    · rename_i e he; exact ⟨e, he⟩
    · cases this
end Go.Ref
namespace Go.Ref
open Go
variable {P : Program} {E : Env}
abbrev Pure := (R : Type) → List SV → Option Box → (List SV → Option Box → Option R) → Option R
def Pure.Nat (g : Pure) : Prop := ∀ (R S : Type) l b (F : List SV → Option Box → Option R) (G : List SV → Option Box → Option S) (K : S → Option R), (∀ r b, F r b = (G r b).bind K) → g R l b F = (g S l b G).bind K
def Funs.none : Funs := fun _ _ _ _ _ => .none
def Funs.add (C : Funs) (n : FuncId) (ps : List Ty) (g : Pure) : Funs := fun R f l b K => bif Nat.beq f n then g R (normA ps l) b K else C R f l b K
theorem z1ua : Funs.none.Nat := fun _ _ _ _ _ _ _ _ _ => rfl
theorem z1s8 (f : FuncId) : Owes P Funs.none f := fun _ _ _ _ h => by cases h
theorem zl {C : Funs} {n : FuncId} {ps : List Ty} {g : Pure} (hC : C.Nat) (hg : g.Nat) : (C.add n ps g).Nat := fun R S f l b F G K h => by
  unfold Funs.add
  cases Nat.beq f n with
  | false => exact hC R S f l b F G K h
  | true => exact hg R S _ b F G K h
theorem zk (hE : EnvOk P E) (hm : P.follows .mixedOrders = true) {C : Funs} (hC : C.Nat) (h0 : ∀ f, Owes P C f) {n : FuncId} {ps : List Ty} {g : Pure} {fn : Func} {code : Code} (hfn : P.funcs[n]? = some fn) (hname : (fn.name == "runtime.NumGoroutine") = false) (hbody : fn.body = some code)
    (h : ∀ (l : List SV) (b : Option Box) (r : List SV) (b' : Option Box), g (List SV × Option Box) (normA ps l) b (fun r b => some (r, b)) = some (r, b') → ∃ k, evFn E (C (List SV × Option Box)) k fn code l b (fun r b => some (r, b)) = some (r, b')) : ∀ f, Owes P (C.add n ps g) f := by
  intro f
  by_cases e : f = n
  · subst e
    refine z224 hE hm hC h0 hfn hname hbody fun l b r b' hc => h l b r b' ?_
    unfold Funs.add at hc
    have : Nat.beq f f = true := by simp
    rw [this] at hc
    exact hc
  · intro l b r b' hc
    unfold Funs.add at hc
    have : Nat.beq f n = false := by
      cases hh : Nat.beq f n with
      | false => rfl
      | true => exact absurd (Nat.eq_of_beq_eq_true hh) e
    rw [this] at hc
    exact h0 f l b r b' hc
def sub : List Nat → Code → Code
  | [], c => c
  | 0 :: p, .seq a _ => sub p a
  | _ :: p, .seq _ b => sub p b
  | 0 :: p, .cond _ a _ => sub p a
  | _ :: p, .cond _ _ b => sub p b
  | _ :: p, .block _ b => sub p b
  | _ :: p, .loop b => sub p b
  | _, c => c
section
variable {R : Type}
def zi (id : Nat) (K : Ex → State → Option R) : Ex → State → Option R := fun e s => match e with
  | .exit j => bif Nat.beq j id then K .normal s else K (.exit j) s
  | e => K e s
def kSeq (E : Env) (C : FuncId → Fun' R) (k : Nat) (b : Code) (K : Ex → State → Option R) : Ex → State → Option R := fun e s => match e with
  | .normal => meet E k (z1v b) s fun s => ev E C k b s K
  | e => K e s
def kFin (E : Env) (rs : List ResultVar) (bx : Option Box) (K : List SV → Option Box → Option R) : Ex → State → Option R := fun e s => match e with
  | .exit _ => none
  | _ => match resOf E s rs with
    | some (l, s') => zfk s' bx (outs' E l) K
    | none => none
end
section
variable {R : Type}
def args0 (l : List SV) (K : Option R) : Option R :=
  match l with
  | [] => K
  | _ => none
def args1 (t : Ty) (l : List SV) (K : El t → Option R) : Option R :=
  match l with
  | [a] => a.el t K
  | _ => none
def args2 (t u : Ty) (l : List SV) (K : El t → El u → Option R) : Option R :=
  match l with
  | [a, b] => a.el t fun x => b.el u fun y => K x y
  | _ => none
def args3 (t u v : Ty) (l : List SV) (K : El t → El u → El v → Option R) : Option R :=
  match l with
  | [a, b, c] => a.el t fun x => b.el u fun y => c.el v fun z => K x y z
  | _ => none
def args4 (t u v w : Ty) (l : List SV) (K : El t → El u → El v → El w → Option R) : Option R :=
  match l with
  | [a, b, c, d] => a.el t fun x => b.el u fun y => c.el v fun z => d.el w fun z' => K x y z z'
  | _ => none
end
theorem z1z8 {R : Type} {t : Ty} {v : SV} {r : List Ty} {q : List SV} {K : El t → Option R} {z : R} {v' : SV} {q' : List SV} (hn : normA (t :: r) (v :: q) = v' :: q') (h : v'.el t K = some z) : ∃ y, v' = .dat t y [] ∧ q' = normA r q ∧ K y = some z := by
  have key : v' = v.shut ∧ q' = normA r q ∨ (∃ e u, t = .sl e u ∧ v' = .dat (.sl e u) ([] : List (El u)) [] ∧ q' = normA r q) := by
    cases t <;> cases v <;> simp only [normA, List.cons.injEq] at hn <;> first | exact .inl ⟨hn.1.symm, hn.2.symm⟩ | exact .inr ⟨_, _, rfl, hn.1.symm, hn.2.symm⟩
  rcases key with ⟨rfl, rfl⟩ | ⟨e, u, rfl, rfl, rfl⟩
  · cases v with
    | dat t' x own =>
      simp only [SV.shut, SV.el] at h
      split at h
      · rename_i heq
        have := Ty.eqb_eq heq
        subst this
        exact ⟨x, rfl, rfl, h⟩
      · cases h
    | nilS => cases t <;> first | (simp [SV.shut, SV.el] at h; done) | (simp [normA, SV.shut] at hn; done)
    | _ => simp [SV.shut, SV.el] at h
  · simp only [SV.el, Ty.eqb_refl, dite_true] at h
    exact ⟨[], rfl, rfl, h⟩
theorem z1wt (hE : EnvOk P E) {H : Type} {enc : TypeId × Value → H} {w : World} {spare : Nat → Bool} {held : Bool} {β : Nat → Option Nat} {base b : Nat} {T : TypeId} {t : Ty} {v : Value} {d : DataW H} {ps : List MemPlace} (hT : E.ty T = some t) (hso : t.solid = true)
    (hv : Value.okWide P w .any b T v) (hd : DataW.Trod enc P w base spare held T v d ps) : ∃ y : El t, Wf t y ∧ ∀ q, RepV (z3m w β) q (.dat t y []) v := by
  obtain ⟨fuel, hd⟩ := hd
  obtain ⟨y, r, wf⟩ := (z1yh (β := β) hE t).1 T fuel _ _ hT hso hd
  refine ⟨y, wf, fun q => ⟨_, r, ?_, z1r⟩⟩
  have hu := (hE.ty T t hT).und
  have hl := r.len
  cases ht : t.agg with
  | true =>
    rw [z1b ht]
    have : ∃ cs, v = .agg cs := by
      unfold Value.okWide at hv
      cases t with
      | arr n t => obtain ⟨e, h1, _⟩ := hu; rw [h1] at hv; obtain ⟨cs, h, _⟩ := hv; exact ⟨cs, h⟩
      | unit => obtain ⟨fs, h1, _⟩ := hu; rw [h1] at hv; obtain ⟨cs, h, _⟩ := hv; exact ⟨cs, h⟩
      | pair a b => obtain ⟨fs, h1, _⟩ := hu; rw [h1] at hv; obtain ⟨cs, h, _⟩ := hv; exact ⟨cs, h⟩
      | spc k a b => exact absurd (hE.notSpc hT) (by simp [Ty.isSpc])
      | _ => simp [Ty.agg] at ht
    obtain ⟨cs, rfl⟩ := this
    rfl
  | false =>
    have hnot : ∀ cs, v ≠ .agg cs := by
      rintro cs rfl
      unfold Value.okWide at hv
      cases t with
      | bool => have hu : P.underlying T = some .bool := hu; rw [hu] at hv; unfold Cell.okWide at hv; rw [hu] at hv; unfold Cell.ok at hv; rw [hu] at hv; exact hv
      | int k => have hu : P.underlying T = some (.int k) := hu; rw [hu] at hv; unfold Cell.okWide at hv; rw [hu] at hv; unfold Cell.ok at hv; rw [hu] at hv; exact hv
      | str => have hu : P.underlying T = some .string := hu; rw [hu] at hv; unfold Cell.okWide at hv; rw [hu] at hv; unfold Cell.ok at hv; rw [hu] at hv; exact hv
      | sl e t => have hu : P.underlying T = some (.slice e) := hu.1; rw [hu] at hv; unfold Cell.okWide at hv; rw [hu] at hv; unfold Cell.ok at hv; rw [hu] at hv; exact hv
      | _ => simp [Ty.agg] at ht
    have hc : v.cells.toList = [v] := by
      cases v <;> first | rfl | exact absurd rfl (hnot _)
    rw [hc, ze2 ht]
theorem z1ho {w : World} {β : Nat → Option Nat} {Y : Cfg} (h : Ext (z3m w β) Y) : ∀ g, g < w.heap.size → Y.w.heap[g]? = w.heap[g]? := fun g hg => (h.still g hg trivial).2
end Go.Ref
namespace Go.Ref
open Go
theorem z1do {x : Int} (h1 : -9223372036854775808 ≤ x) (h2 : x ≤ 9223372036854775807) : IntKind.i64.wrap x = x := by
  simp [IntKind.wrap, IntKind.signed, IntKind.bits]
  omega
theorem z1sc {R : Type} {j n : Nat} {x : Option R} (h : j < n) : zj (j : Int) n x = x := by
  unfold zj
  rw [decide_eq_true (by omega : (0 : Int) ≤ j), decide_eq_true (by omega : (j : Int) < n)]
  rfl
end Go.Ref
namespace Go.Ref
open Go
variable {P : Program} {E : Env}
def zp9 (X : Cfg) : List SV → List Value → Prop
  | [], [] => True
  | s :: l, v :: vs => (∀ q, RepV X q s v) ∧ (∀ id t p, s ≠ .ptr id t p) ∧ zp9 X l vs
  | _, _ => False
theorem zzc {X : Cfg} : ∀ {l : List SV} {vs : List Value}, zp9 X l vs → vs.length = l.length ∧ ∀ (i : Nat) s v, l[i]? = some s → vs[i]? = some v → (∀ q, RepV X q s v) ∧ ∀ id t p, s ≠ .ptr id t p
  | [], [], _ => ⟨rfl, fun i s v h => by simp at h⟩
  | s :: l, v :: vs, h => by
    obtain ⟨h1, h2, h3⟩ := h
    obtain ⟨g1, g2⟩ := zzc h3
    refine ⟨by simp [g1], fun i s' v' hs hv => ?_⟩
    cases i with
    | zero =>
      simp only [List.getElem?_cons_zero, Option.some.injEq] at hs hv
      subst hs hv
      exact ⟨h1, h2⟩
    | succ i =>
      simp only [List.getElem?_cons_succ] at hs hv
      exact g2 i s' v' hs hv
theorem z1wr {X : Cfg} {l : List SV} {args : Array Value} (h : zp9 X l args.toList) : Enter X l none args := by
  obtain ⟨h1, h2⟩ := zzc h
  refine ⟨by simpa using h1, fun i sv v hs hv => (h2 i sv v hs (by simpa using hv)).1 _, fun id t p hm => ?_, fun B hB => by cases hB⟩
  obtain ⟨i, hi⟩ := List.mem_iff_getElem?.1 hm
  have hlt := (List.getElem?_eq_some_iff.1 hi).1
  have hlt2 : i < args.toList.length := by omega
  exact absurd rfl ((h2 i _ _ hi (List.getElem?_eq_getElem hlt2)).2 id t p)
theorem z1sr {C : Funs} {f : FuncId} (ho : Owes P C f) {l : List SV} {args : Array Value} {W : World} {b : Bool} (hc : C (List SV × Option Box) f l none (fun r b => some (r, b)) = some ([.dat .bool b []], none)) (hen : zp9 (z3m W fun _ => none) l args.toList) :
    Calls P f args W fun e w' => e = .returned (.bool b) ∧ RowKit.Below W.heap.size W w' := by
  refine ((ho l none _ _ hc).2 (z3m W fun _ => none) args (z1wr hen)).mono fun e w' he => ?_
  cases e with
  | returned v =>
    obtain ⟨Y, rfl, hext, r0, hrep, _, _⟩ := he
    have hrep : RepV { Y with β := fun _ => some r0 } (.r 0) (.dat .bool b []) v := hrep
    refine ⟨by rw [z3s hrep], hext.os, hext.tape, hext.output, hext.size, fun k hk => z1ho hext k hk⟩
  | panicked c => exact he.elim
  | outgrown => exact he.elim
end Go.Ref
namespace Go.Ref
open Go
variable {P : Program} {E : Env}
def bs (l : List Nat) : ByteArray := ⟨(l.map UInt8.ofNat).toArray⟩
@[irreducible] def FUEL : Nat := 18446744073709551616
theorem z10l {R : Type} (f : Unit → Option R) : joinK FUEL f = f () := by
  have : FUEL = 18446744073709551615 + 1 := by unfold FUEL; rfl
  rw [this]; rfl
section
variable {R S : Type}
def kLoop (body : State → (Ex → State → Option R) → Option R) (l lx : List Nat) (k : Nat) (K : Ex → State → Option R) : Ex → State → Option R := fun e s => match e with
  | .normal => z3j l s fun s => loopR body l lx k s K
  | e => z3j lx s fun s => K e s
def argB (t : Ty) (own : List (List Nat)) (l : List SV) (b : Option Box) (K : El t → List SV → Option R) : Option R :=
  match l, b with
  | .ptr 0 u [] :: r, some B => if h : B.t.eqb t = true then if (u.eqb t && B.own == own) = true then K (Ty.cast h B.x) r else none else none
  | _, _ => none
def argZ1 (t pt bt : Ty) (own : List (List Nat)) (l : List SV) (b : Option Box) (K : El t → El bt → Option R) : Option R :=
  match l, b with
  | [a, .ptr 0 u []], some B => if h : B.t.eqb bt = true then if (u.eqb pt && B.own == own) = true then a.el t fun y => K y (Ty.cast h B.x) else none else none
  | _, _ => none
def zh6 (t u v w : Ty) (l : List SV) (K : El t → El u → El v → El w → Option R) : Option R :=
  match l with
  | [a, b, .view v' x, .view w' y] => if h : v'.eqb v = true then if h2 : w'.eqb w = true then a.el t fun p => b.el u fun q => K p q (Ty.cast h x) (Ty.cast h2 y) else none else none
  | _ => none
def noBox (b : Option Box) (K : Option R) : Option R :=
  match b with
  | none => K
  | some _ => none
theorem zh {b : Option Box} {F : Option R} {G : Option S} {K : S → Option R} (h : F = G.bind K) : noBox b F = (noBox b G).bind K := by
  cases b
  · exact h
  · rfl
theorem zf {b : Option Box} {F : Option R} {z : R} (h : noBox b F = some z) : b = none ∧ F = some z := by
  cases b
  · exact ⟨rfl, h⟩
  · cases h
theorem z8 (c : Bool) (x y : Option S) (F : S → Option R) : (bif c then x else y).bind F = bif c then x.bind F else y.bind F := by cases c <;> rfl
theorem z6 (i : Int) (n : Nat) (x : Option S) (F : S → Option R) : (zj i n x).bind F = zj i n (x.bind F) := by
  unfold zj; rw [z8, z8]; rfl
theorem zd (F : S → Option R) : (none : Option S).bind F = none := Eq.trans rfl rfl
theorem z7 (x : S) (F : S → Option R) : (some x).bind F = F x := Eq.trans rfl rfl
theorem ze {α β : Type} (f : α → Option S) (g : β → Option S) (e : α ⊕ β) (F : S → Option R) : (Sum.elim f g e).bind F = Sum.elim (fun x => (f x).bind F) (fun x => (g x).bind F) e := by cases e <;> rfl
theorem zc {α : Type} (x : Option α) (f : α → Option S) (F : S → Option R) : (x.bind f).bind F = x.bind fun y => (f y).bind F := by cases x <;> rfl
theorem z5z {l : List SV} {F : Option R} {G : Option S} {K : S → Option R} (h : F = G.bind K) : args0 l F = (args0 l G).bind K := by
  unfold args0; split
  · exact h
  · rfl
theorem zp {t : Ty} {l : List SV} {F : El t → Option R} {G : El t → Option S} {K : S → Option R} (h : ∀ x, F x = (G x).bind K) : args1 t l F = (args1 t l G).bind K := by
  unfold args1; split
  · exact z10 h
  · rfl
theorem zq {t u : Ty} {l : List SV} {F : El t → El u → Option R} {G : El t → El u → Option S} {K : S → Option R} (h : ∀ x y, F x y = (G x y).bind K) : args2 t u l F = (args2 t u l G).bind K := by
  unfold args2; split
  · exact z10 fun x => z10 fun y => h x y
  · rfl
theorem z17 {t u v : Ty} {l : List SV} {F : El t → El u → El v → Option R} {G : El t → El u → El v → Option S} {K : S → Option R} (h : ∀ x y z, F x y z = (G x y z).bind K) : args3 t u v l F = (args3 t u v l G).bind K := by
  unfold args3; split
  · exact z10 fun x => z10 fun y => z10 fun z => h x y z
  · rfl
theorem zrw {t u v w : Ty} {l : List SV} {F : El t → El u → El v → El w → Option R} {G : El t → El u → El v → El w → Option S} {K : S → Option R} (h : ∀ x y z a, F x y z a = (G x y z a).bind K) : args4 t u v w l F = (args4 t u v w l G).bind K := by
  unfold args4; split
  · exact z10 fun x => z10 fun y => z10 fun z => z10 fun a => h x y z a
  · rfl
theorem z187 {t : Ty} {own : List (List Nat)} {l : List SV} {b : Option Box} {F : El t → List SV → Option R} {G : El t → List SV → Option S} {K : S → Option R} (h : ∀ x r, F x r = (G x r).bind K) : argB t own l b F = (argB t own l b G).bind K := by
  unfold argB; split
  · split
    · split
      · exact h _ _
      · rfl
    · rfl
  · rfl
theorem z5y {t pt bt : Ty} {own : List (List Nat)} {l : List SV} {b : Option Box} {F : El t → El bt → Option R} {G : El t → El bt → Option S} {K : S → Option R} (h : ∀ x y, F x y = (G x y).bind K) : argZ1 t pt bt own l b F = (argZ1 t pt bt own l b G).bind K := by
  unfold argZ1; split
  · split
    · split
      · exact z10 fun y => h _ _
      · rfl
    · rfl
  · rfl
theorem z1fs {t u v w : Ty} {l : List SV} {F : El t → El u → El v → El w → Option R} {G : El t → El u → El v → El w → Option S} {K : S → Option R} (h : ∀ x y z a, F x y z a = (G x y z a).bind K) : zh6 t u v w l F = (zh6 t u v w l G).bind K := by
  unfold zh6; split
  · split
    · split
      · exact z10 fun x => z10 fun y => h x y _ _
      · rfl
    · rfl
  · rfl
theorem zg {α : Type} {m : Option α} {F : α → Option R} {G : α → Option S} {K : S → Option R} (h : ∀ r, F r = (G r).bind K) : m.bind F = (m.bind G).bind K := by
  cases m with
  | none => rfl
  | some x => exact h x
theorem z1f0 {α β : Type} {f : α → Option R} {g : β → Option R} {f' : α → Option S} {g' : β → Option S} {K : S → Option R} {e : α ⊕ β} (h1 : ∀ x, f x = (f' x).bind K) (h2 : ∀ x, g x = (g' x).bind K) : Sum.elim f g e = (Sum.elim f' g' e).bind K := by
  cases e with
  | inl x => exact h1 x
  | inr x => exact h2 x
end
section
variable {R : Type}
theorem z1ip {C : FuncId → Fun' R} {k : Nat} {fn : Func} {code : Code} {l q : List SV} {b : Option Box} {K : List SV → Option Box → Option R} (h : normA E.ps l = q) (hq : normA E.ps q = q) (hl : q.length = l.length) : evFn E C k fn code l b K = evFn E C k fn code q b K := by
  unfold evFn
  simp only [h, hq, hl]
theorem z14x : ∀ {ts : List Ty} {q : List SV}, (∀ s ∈ q, s.shut = s ∧ s ≠ .nilS) → normA ts q = q
  | ts, [], _ => by cases ts <;> simp [normA]
  | [], q, _ => by simp [normA]
  | t :: r, v :: q, h => by
    have h1 := h v (by simp)
    have h2 := z14x (ts := r) (q := q) (fun s hs => h s (by simp [hs]))
    cases t <;> cases v <;> simp [normA, h2] <;> first | exact h1.1 | exact absurd rfl h1.2
theorem z1w1 {ts : List Ty} {l : List SV} (h : normA ts l = []) : l = [] := by
  have := zdj ts l
  rw [h] at this
  exact List.length_eq_zero_iff.1 this.symm
theorem z1kh {t : Ty} {r : List Ty} {l : List SV} {v' : SV} {q' : List SV} (h : normA (t :: r) l = v' :: q') : ∃ v q, l = v :: q := by
  cases l with
  | nil => simp [normA] at h
  | cons v q => exact ⟨v, q, rfl⟩
theorem z2f {t : Ty} {r : List Ty} {l : List SV} {a : SV} {q' : List SV} {K : El t → Option R} {z : R} (hn : normA (t :: r) l = a :: q') (h : a.el t K = some z) : ∃ y v q, a = .dat t y [] ∧ l = v :: q ∧ normA r q = q' ∧ K y = some z := by
  obtain ⟨v, q, rfl⟩ := z1kh hn
  obtain ⟨y, h1, h2, h3⟩ := z1z8 hn h
  exact ⟨y, v, q, h1, rfl, h2.symm, h3⟩
theorem z4f {l q : List SV} (hn : normA E.ps l = q) (hd : ∀ s ∈ q, s.shut = s ∧ s ≠ .nilS) {C : FuncId → Fun' R} {k : Nat} {fn : Func} {code : Code} {b : Option Box} {K : List SV → Option Box → Option R} : evFn E C k fn code l b K = evFn E C k fn code q b K :=
  z1ip hn (z14x hd) (by rw [← hn, zdj])
theorem zcw {t : Ty} {x : El t} : (SV.dat t x []).shut = SV.dat t x [] ∧ SV.dat t x [] ≠ .nilS := ⟨rfl, by simp⟩
def Same (E : Env) (l q : List SV) : Prop := ∀ {R : Type} (C : FuncId → Fun' R) (k : Nat) (fn : Func) (code : Code) (b : Option Box) (K : List SV → Option Box → Option R), evFn E C k fn code l b K = evFn E C k fn code q b K
theorem own0 {l : List SV} {F : Option R} {z : R} (hps : E.ps = []) (h : args0 (normA [] l) F = some z) : F = some z ∧ Same E l [] := by
  unfold args0 at h
  split at h
  · rename_i hn
    have := z1w1 hn
    subst this
    exact ⟨h, fun C k fn code b K => rfl⟩
  · cases h
theorem own1 {t : Ty} {l : List SV} {F : El t → Option R} {z : R} (hps : E.ps = [t]) (h : args1 t (normA [t] l) F = some z) : ∃ x, F x = some z ∧ Same E l [.dat t x []] := by
  unfold args1 at h
  split at h
  · rename_i a hn
    obtain ⟨x, v, q, rfl, rfl, h1, h⟩ := z2f hn h
    refine ⟨x, h, fun C k fn code b K => z4f (by rw [hps]; exact hn) ?_⟩
    intro s hs
    simp only [List.mem_cons, List.not_mem_nil, or_false] at hs
    subst hs; exact zcw
  · cases h
theorem own2 {t u : Ty} {l : List SV} {F : El t → El u → Option R} {z : R} (hps : E.ps = [t, u]) (h : args2 t u (normA [t, u] l) F = some z) : ∃ x y, F x y = some z ∧ Same E l [.dat t x [], .dat u y []] := by
  unfold args2 at h
  split at h
  · rename_i a b hn
    obtain ⟨x, v, q, rfl, rfl, h1, h⟩ := z2f hn h
    obtain ⟨y, v', q', rfl, rfl, h2, h⟩ := z2f h1 h
    refine ⟨x, y, h, fun C k fn code b K => z4f (by rw [hps]; exact hn) ?_⟩
    intro s hs
    simp only [List.mem_cons, List.not_mem_nil, or_false] at hs
    rcases hs with rfl | rfl <;> exact zcw
  · cases h
theorem own3 {t u v : Ty} {l : List SV} {F : El t → El u → El v → Option R} {z : R} (hps : E.ps = [t, u, v]) (h : args3 t u v (normA [t, u, v] l) F = some z) : ∃ x y a, F x y a = some z ∧ Same E l [.dat t x [], .dat u y [], .dat v a []] := by
  unfold args3 at h
  split at h
  · rename_i a b c hn
    obtain ⟨x, v, q, rfl, rfl, h1, h⟩ := z2f hn h
    obtain ⟨y, v', q', rfl, rfl, h2, h⟩ := z2f h1 h
    obtain ⟨w, v', q', rfl, rfl, h3, h⟩ := z2f h2 h
    refine ⟨x, y, w, h, fun C k fn code b K => z4f (by rw [hps]; exact hn) ?_⟩
    intro s hs
    simp only [List.mem_cons, List.not_mem_nil, or_false] at hs
    rcases hs with rfl | rfl | rfl <;> exact zcw
  · cases h
theorem own4 {t u v w : Ty} {l : List SV} {F : El t → El u → El v → El w → Option R} {z : R} (hps : E.ps = [t, u, v, w]) (h : args4 t u v w (normA [t, u, v, w] l) F = some z) : ∃ x y a b, F x y a b = some z ∧ Same E l [.dat t x [], .dat u y [], .dat v a [], .dat w b []] := by
  unfold args4 at h
  split at h
  · rename_i a b c d hn
    obtain ⟨x, v, q, rfl, rfl, h1, h⟩ := z2f hn h
    obtain ⟨y, v', q', rfl, rfl, h2, h⟩ := z2f h1 h
    obtain ⟨w, v', q', rfl, rfl, h3, h⟩ := z2f h2 h
    obtain ⟨w', v', q', rfl, rfl, h4, h⟩ := z2f h3 h
    refine ⟨x, y, w, w', h, fun C k fn code b K => z4f (by rw [hps]; exact hn) ?_⟩
    intro s hs
    simp only [List.mem_cons, List.not_mem_nil, or_false] at hs
    rcases hs with rfl | rfl | rfl | rfl <;> exact zcw
  · cases h
theorem z13j {t : Ty} {own : List (List Nat)} {l : List SV} {b : Option Box} {F : El t → List SV → Option R} {z : R} (h : argB t own l b F = some z) : ∃ x r, l = .ptr 0 t [] :: r ∧ b = some ⟨t, x, own⟩ ∧ F x r = some z := by
  unfold argB at h
  split at h
  · rename_i u r B
    split at h
    · rename_i hB
      split at h
      · rename_i hu
        simp only [Bool.and_eq_true, beq_iff_eq] at hu
        obtain ⟨h1, h2⟩ := hu
        obtain ⟨Bt, Bx, Bo⟩ := B
        have := Ty.eqb_eq hB
        have h3 := Ty.eqb_eq h1
        subst this
        subst h3
        subst h2
        exact ⟨Bx, r, rfl, rfl, h⟩
      · cases h
    · cases h
  · cases h
theorem z1ri {t : Ty} : (SV.ptr 0 t []).shut = SV.ptr 0 t [] ∧ SV.ptr 0 t [] ≠ .nilS := ⟨rfl, by simp⟩
theorem Same.ptr {t : Ty} {ts : List Ty} {q q' : List SV} (hps : E.ps = .unit :: ts) (hn : normA ts q = q') (hd : ∀ s ∈ q', s.shut = s ∧ s ≠ .nilS) : Same E (.ptr 0 t [] :: q) (.ptr 0 t [] :: q') := fun C k fn code b K =>
  z4f (by rw [hps]; simp [normA, SV.shut, hn]) (fun s hs => by
    rcases List.mem_cons.1 hs with rfl | hs
    · exact z1ri
    · exact hd s hs)
theorem ownZ1 {t pt bt : Ty} {own : List (List Nat)} {l : List SV} {b : Option Box} {F : El t → El bt → Option R} {z : R} (hps : E.ps = [t, .unit]) (h : argZ1 t pt bt own (normA [t, .unit] l) b F = some z) :
    ∃ x y, b = some ⟨bt, y, own⟩ ∧ F x y = some z ∧ Same E l [.dat t x [], .ptr 0 pt []] := by
  unfold argZ1 at h
  split at h
  · rename_i a u B hn
    split at h
    · rename_i hB
      split at h
      · rename_i hu
        simp only [Bool.and_eq_true, beq_iff_eq] at hu
        obtain ⟨h1, h2⟩ := hu
        obtain ⟨Bt, Bx, Bo⟩ := B
        have := Ty.eqb_eq hB
        have h3 := Ty.eqb_eq h1
        subst this
        subst h3
        subst h2
        obtain ⟨y, v, q, rfl, rfl, h4, h⟩ := z2f hn h
        refine ⟨y, Bx, rfl, h, fun C k fn code b K => z4f (by rw [hps]; exact hn) ?_⟩
        intro s hs
        simp only [List.mem_cons, List.not_mem_nil, or_false] at hs
        rcases hs with rfl | rfl
        · exact zcw
        · exact z1ri
      · cases h
    · cases h
  · cases h
theorem z1fa {t : Ty} {x : El t} : (SV.view t x).shut = SV.view t x ∧ SV.view t x ≠ .nilS := ⟨rfl, by simp⟩
theorem ownVV {t u v w : Ty} {l : List SV} {F : El t → El u → El v → El w → Option R} {z : R} (hps : E.ps = [t, u, .unit, .unit]) (h : zh6 t u v w (normA [t, u, .unit, .unit] l) F = some z) :
    ∃ p q x y, F p q x y = some z ∧ Same E l [.dat t p [], .dat u q [], .view v x, .view w y] := by
  unfold zh6 at h
  split at h
  · rename_i a b v' x w' y hn
    split at h
    · rename_i hv
      split at h
      · rename_i hw
        have := Ty.eqb_eq hv
        have h3 := Ty.eqb_eq hw
        subst this
        subst h3
        obtain ⟨p, v1, q1, rfl, rfl, h4, h⟩ := z2f hn h
        obtain ⟨q, v2, q2, rfl, rfl, h5, h⟩ := z2f h4 h
        refine ⟨p, q, x, y, h, fun C k fn code b K => z4f (by rw [hps]; exact hn) ?_⟩
        intro s hs
        simp only [List.mem_cons, List.not_mem_nil, or_false] at hs
        rcases hs with rfl | rfl | rfl | rfl
        · exact zcw
        · exact zcw
        · exact z1fa
        · exact z1fa
      · cases h
    · cases h
  · cases h
end
end Go.Ref
namespace Go.Ref
open Go
variable {P : Program} {E : Env}
def Cfg.after (X : Cfg) (w : World) : Cfg := ⟨w, fun g => if g < X.w.heap.size then X.ow g else .ro 0, X.β⟩
theorem zzg {X : Cfg} {w : World} (h : RowKit.Below X.w.heap.size X.w w) {a : Addr} {v : Value} (hs : X.sees a v) : (X.after w).sees a v := by
  have hlt := Cfg.sees_lt hs
  refine ⟨hs.1, ?_, ?_⟩
  · have := hs.2.1
    simp only [World.cell?] at this ⊢
    rw [show (X.after w).w = w from rfl, h.block _ hlt]; exact this
  · simp only [Cfg.after]; rw [if_pos hlt]; exact hs.2.2
theorem z1ps {X : Cfg} {w : World} (h : RowKit.Below X.w.heap.size X.w w) : Ext X (X.after w) where
  sees := fun _ _ => zzg h
  size := h.size
  os := h.os
  tape := h.tape
  output := h.output
  β0 := rfl
  still := fun g hg _ => ⟨by simp only [Cfg.after]; rw [if_pos hg], h.block g hg⟩
theorem z1wo {C : Funs} (h0 : ∀ f, Owes P C f) {n : FuncId} {g : Pure} (hent : Ent P n)
    (h : ∀ (l : List SV) (b : Option Box) (r : List SV) (b' : Option Box), g (List SV × Option Box) l b (fun r b => some (r, b)) = some (r, b') → b' = none ∧ (∀ id t p, SV.ptr id t p ∉ r) ∧
      ∀ (X : Cfg) (args : Array Value), Enter X l b args → Calls P n args X.w fun e w' => ∃ v, e = .returned v ∧ RowKit.Below X.w.heap.size X.w w' ∧ ∀ Y : Cfg, Y.w = w' → (∀ a v, X.sees a v → Y.sees a v) → RepL Y .r r v) : ∀ f, Owes P (C.add n [] g) f := by
  intro f
  by_cases e : f = n
  · subst e
    intro l b r b' hc
    unfold Funs.add at hc
    have hb : Nat.beq f f = true := by simp
    rw [hb] at hc
    have hc : g (List SV × Option Box) (normA [] l) b (fun r b => some (r, b)) = some (r, b') := hc
    have hl : normA [] l = l := by cases l <;> rfl
    rw [hl] at hc
    obtain ⟨rfl, hp, hcalls⟩ := h l b r b' hc
    refine ⟨hent, fun X args hen => (hcalls X args hen).mono fun e w' he => ?_⟩
    obtain ⟨v, rfl, hB, hrep⟩ := he
    refine ⟨X.after w', rfl, z1ps hB, 0, hrep { X.after w' with β := fun _ => some 0 } rfl (fun a v hs => (zzg hB hs : (X.after w').sees a v)), fun B' hB' => (by cases hB'), fun _ => hp⟩
  · intro l b r b' hc
    unfold Funs.add at hc
    have : Nat.beq f n = false := by
      cases hh : Nat.beq f n with
      | false => rfl
      | true => exact absurd (Nat.eq_of_beq_eq_true hh) e
    rw [this] at hc
    exact h0 f l b r b' hc
theorem z13y {X : Cfg} {l : List SV} {b : Option Box} {args : Array Value} (h : Enter X l b args) {i : Nat} {sv : SV} (hs : l[i]? = some sv) {x : ByteArray} (hx : ∀ (X : Cfg) (pl : List Nat → Place) (v : Value), RepV X pl sv v → ∃ cs, Rep X .str x cs ∧ v = mkv .str cs) : args[i]? = some (.string x) := by
  have hlt : i < args.size := by rw [h.size]; exact (List.getElem?_eq_some_iff.1 hs).1
  rw [Array.getElem?_eq_getElem hlt]
  obtain ⟨cs, h1, h2⟩ := hx X _ _ (h.rep i sv _ hs (Array.getElem?_eq_getElem hlt))
  rw [h2, z1y h1]
theorem z1sb {X : Cfg} {l : List SV} {b : Option Box} {args : Array Value} (h : Enter X l b args) {i : Nat} {sv : SV} (hs : l[i]? = some sv) {k : IntKind} {n : Int} (hx : ∀ (X : Cfg) (pl : List Nat → Place) (v : Value), RepV X pl sv v → ∃ cs, Rep X (.int k) n cs ∧ v = mkv (.int k) cs) : args[i]? = some (.int k n) := by
  have hlt : i < args.size := by rw [h.size]; exact (List.getElem?_eq_some_iff.1 hs).1
  rw [Array.getElem?_eq_getElem hlt]
  obtain ⟨cs, h1, h2⟩ := hx X _ _ (h.rep i sv _ hs (Array.getElem?_eq_getElem hlt))
  rw [h2, z1p h1]
theorem z1t2 {args : Array Value} {v : Value} (hs : args.size = 1) (h : args[0]? = some v) : args = #[v] := by
  apply Array.ext'
  match hl : args.toList, (show args.toList.length = 1 by simpa using hs) with
  | [x], _ =>
    have : args.toList[0]? = some v := by simpa using h
    rw [hl] at this
    simpa using this
theorem z1ap {args : Array Value} {u v : Value} (hs : args.size = 2) (h : args[0]? = some u) (h1 : args[1]? = some v) : args = #[u, v] := by
  apply Array.ext'
  match hl : args.toList, (show args.toList.length = 2 by simpa using hs) with
  | [x, y], _ =>
    have a : args.toList[0]? = some u := by simpa using h
    have b : args.toList[1]? = some v := by simpa using h1
    rw [hl] at a b
    simp at a b
    rw [a, b]
theorem z1wm {C : Funs} (h0 : ∀ f, Owes P C f) {n : FuncId} (hent : Ent P n) (F : ByteArray → Int → Option ByteArray)
    (h : ∀ (s : ByteArray) (k : Int) (r : ByteArray), F s k = some r → ∀ w : World, Calls P n #[.string s, .int .i64 k] w fun e w' => e = .returned (.string r) ∧ RowKit.Below w.heap.size w w') :
    ∀ f, Owes P (C.add n [] fun R l b K => noBox b (args2 .str (.int .i64) l fun x0 x1 => (F x0 x1).bind fun r => K [.dat .str r []] none)) f := by
  refine z1wo h0 hent fun l b r b' hc => ?_
  obtain ⟨hb, hc2⟩ := zf hc
  clear hc
  subst hb
  have hc := hc2
  clear hc2
  unfold args2 at hc
  split at hc
  case h_2 => cases hc
  rename_i sa sb
  obtain ⟨s, hc, hs⟩ := z15 hc
  obtain ⟨k, hc, hk⟩ := z15 hc
  have hc : ((F s k).bind fun r => some (([SV.dat .str r []] : List SV), (none : Option Box))) = some (r, b') := hc
  cases hF : F s k with
  | none => rw [hF] at hc; cases hc
  | some x =>
    rw [hF] at hc
    cases hc
    refine ⟨rfl, fun id t p hm => by simp at hm, fun X args hen => ?_⟩
    have e := z1ap hen.size (z13y hen rfl hs) (z1sb hen rfl hk)
    rw [e]
    exact (h s k x hF X.w).mono fun e w' ⟨he, hB⟩ => ⟨_, he, hB, fun Y _ _ => z4d⟩
end Go.Ref
namespace Groat
open Go Go.Ref
def strings_Repeat (s : ByteArray) (k : Int) : Option ByteArray :=
  bif decide (0 ≤ k) then bif decide (k ≤ 9223372036854775807) then bif decide ((s.size : Int) * k ≤ 140737488355328) then some ⟨(Go.Lib.repeatL s.data.toList k.toNat).toArray⟩ else none else none else none
theorem zk2 {P : Program} {ρ : Go.Shelf.Ren} (L : Go.Proofs.Lays.n105 P ρ) (B : Go.Proofs.Builder.Extra P ρ) {n : FuncId} (hn : ρ.f 105 = n) (s : ByteArray) (k : Int) (r : ByteArray) (h : strings_Repeat s k = some r) (w : World) :
    Calls P n #[.string s, .int .i64 k] w fun e w' => e = .returned (.string r) ∧ RowKit.Below w.heap.size w w' := by
  subst hn
  unfold strings_Repeat at h
  by_cases h0 : 0 ≤ k
  · by_cases h1 : k ≤ 9223372036854775807
    · by_cases h2 : (s.size : Int) * k ≤ 140737488355328
      · rw [decide_eq_true h0, decide_eq_true h1, decide_eq_true h2] at h
        cases h
        obtain ⟨c, rfl⟩ : ∃ c : Nat, k = (c : Int) := ⟨k.toNat, by omega⟩
        exact Go.Proofs.Any.strings_Repeat L B s c w (by omega) (by rw [← Int.natCast_mul] at h2; omega)
      · rw [decide_eq_true h0, decide_eq_true h1, decide_eq_false h2] at h; cases h
    · rw [decide_eq_true h0, decide_eq_false h1] at h; cases h
  · rw [decide_eq_false h0] at h; cases h
end Groat
namespace Go.Ref
open Go Go.Shelf Go.RowKit Go.Proofs
variable {P : Program} {E : Env} {ρ : Ren}
abbrev tBld (T e : TypeId) : Ty := .spc (.bld T e) .unit .unit
def z29 (x s : ByteArray) : Option (Int × ByteArray) := bif decide (x.size + s.size ≤ 140737488355328) then some ((s.size : Int), x ++ s) else none
def z59 (x : ByteArray) : Option (ByteArray × ByteArray) := some (x, x)
def zq2 (T e : TypeId) : Pure := fun R l b K => argB (tBld T e) [[]] l b fun x0 l => args1 .str l fun x1 => (z29 x0 x1).bind fun r => K [.dat (.int .i64) r.1 [], .undef] (some ⟨tBld T e, r.2, [[]]⟩)
def zl5 (T e : TypeId) : Pure := fun R l b K => argB (tBld T e) [[]] l b fun x0 l => args0 l ((z59 x0).bind fun r => K [.dat .str r.1 []] (some ⟨tBld T e, r.2, []⟩))
theorem z273 (T e : TypeId) : (zq2 T e).Nat := fun R S l b F G K h => z187 fun _ _ => zp fun _ => zg fun _ => h _ _
theorem z27u (T e : TypeId) : (zl5 T e).Nat := fun R S l b F G K h => z187 fun _ _ => z5z (zg fun _ => h _ _)
theorem z174 (x s : ByteArray) : Lib.strCells (x ++ s) = Lib.strCells x ++ Lib.strCells s := by
  simp [Lib.strCells, ByteArray.data_append]
def Cfg.bld (X : Cfg) (w : World) (r : Nat) (g : Option Nat) : Cfg := ⟨w, fun k => if k = r then .box 0 else if g = some k then .row (.b 0 []) 0 else if k < X.w.heap.size then X.ow k else .ro 0, X.β⟩
theorem z1eo {X : Cfg} {w : World} {r : Nat} {g0 g : Option Nat} (how : X.ow r = .box 0) (h0 : ∀ k, g0 = some k → X.ow k = .row (.b 0 []) 0) (h : But r g0 X.w w) (hg : ∀ k, g = some k → g0 = some k ∨ X.w.heap.size ≤ k) : Ext X (X.bld w r g) := by
  have keep : ∀ k, k < X.w.heap.size → X.ow k ≠ .box 0 → X.ow k ≠ .row (.b 0 []) 0 → (X.bld w r g).ow k = X.ow k ∧ w.heap[k]? = X.w.heap[k]? := fun k hk h1 h2 => by
    have hr : k ≠ r := fun e => h1 (by rw [e]; exact how)
    have hg1 : g ≠ some k := fun e => by
      rcases hg k e with e2 | e2
      · exact h2 (h0 k e2)
      · omega
    have hg2 : some k ≠ g0 := fun e => h2 (h0 k e.symm)
    refine ⟨?_, h.block k hk hr hg2⟩
    simp only [Cfg.bld]
    rw [if_neg hr, if_neg hg1, if_pos hk]
  refine ⟨fun a v hs => ?_, h.size, h.os, h.tape, h.output, rfl, fun k hk hst => ?_⟩
  · have hlt := Cfg.sees_lt hs
    have hu := hs.2.2
    obtain ⟨k1, k2⟩ := keep a.block hlt (fun e => by rw [e] at hu; exact hu) (fun e => by rw [e] at hu; exact Nat.not_lt_zero _ hu)
    refine ⟨hs.1, ?_, by rw [k1]; exact hu⟩
    have := hs.2.1
    simp only [World.cell?] at this ⊢
    rw [show (X.bld w r g).w.heap = w.heap from rfl, k2]; exact this
  · exact keep k hk (fun e => by rw [e] at hst; exact hst) (fun e => by rw [e] at hst; exact hst)
theorem z1c7 (n : Nat) : Nat.beq n n = true := by simp
theorem z1i8 {f n : Nat} (e : f ≠ n) : Nat.beq f n = false := by
  cases hh : Nat.beq f n with
  | false => rfl
  | true => exact absurd (Nat.eq_of_beq_eq_true hh) e
theorem z1rg {C : Funs} (h0 : ∀ f, Owes P C f) {n T e : TypeId} (hent : Ent P n) (L : Lays.n166 P ρ) (X0 : Builder.Extra P ρ) (hn : ρ.f 166 = n) (hT : ρ.t 72 = T) (he : ρ.t 5 = e) : ∀ f, Owes P (C.add n [] (zq2 T e)) f := by
  subst hT he
  intro f
  by_cases ef : f = n
  · subst ef
    intro l b r b' hc
    unfold Funs.add at hc
    rw [z1c7] at hc
    have hc : zq2 (ρ.t 72) (ρ.t 5) (List SV × Option Box) (normA [] l) b (fun r b => some (r, b)) = some (r, b') := hc
    have hl : normA [] l = l := by cases l <;> rfl
    rw [hl] at hc
    unfold zq2 at hc
    obtain ⟨x, q, rfl, rfl, hc9⟩ := z13j hc
    clear hc
    have hc := hc9
    clear hc9
    unfold args1 at hc
    split at hc
    case h_2 => cases hc
    rename_i a
    obtain ⟨s, hc, hs⟩ := z15 hc
    unfold z29 at hc
    cases hd : decide (ByteArray.size x + s.size ≤ 140737488355328) with
    | false => rw [hd] at hc; cases hc
    | true =>
      rw [hd] at hc
      cases hc
      have hlen := of_decide_eq_true hd
      refine ⟨hent, fun X args hen => ?_⟩
      obtain ⟨r0, hβ, how, ⟨o, ho⟩, hb⟩ := hen.box _ rfl
      obtain ⟨v, hB, hv⟩ := hb (by simp)
      have hsz : args.size = 2 := by rw [hen.size]; rfl
      have a0 : args[0]? = some (.pointer (some ⟨r0, 0, none⟩)) := by
        rw [Array.getElem?_eq_getElem (by omega)]
        obtain ⟨r1, g1, g2⟩ := hen.rep 0 _ _ rfl (Array.getElem?_eq_getElem (by omega))
        rw [hβ] at g1
        cases g1
        rw [((zcb rfl).1 g2).1]; rfl
      have a1 : args[1]? = some (.string s) := z13y hen (i := 1) rfl hs
      rw [z1ap hsz a0 a1, ← hn]
      refine (z1iv L X0 r0 v (Lib.strCells x) s X.w hB (by rw [Lib.strCells_length]; exact hlen)).mono ?_
      rintro e w' ⟨rfl, v', hB', hBut, hnew⟩
      have hY : (X.bld w' r0 v'.ownBlock).ow r0 = .box 0 := by simp [Cfg.bld]
      refine ⟨X.bld w' r0 v'.ownBlock, rfl, z1eo how hv hBut hnew, r0, ⟨_, rfl, rfl, fun j sv u hj hu => ?_⟩, fun B' hB2 => ?_, fun _ id t p hm => by simp at hm⟩
      · match j with
        | 0 => cases hj; cases hu; exact z16
        | 1 => cases hj; trivial
        | j + 2 => simp at hj
      · cases hB2
        refine ⟨⟨hY, ?_, fun _ => ⟨v', by rw [z174]; exact hB', fun g hg => ?_⟩⟩, fun _ => hβ⟩
        · rcases hB'.blk with h | h <;> exact ⟨_, h⟩
        · simp only [Cfg.bld]
          rw [if_neg (fun e => hB'.ne (by rw [hg, e])), if_pos hg]
  · intro l b r b' hc
    unfold Funs.add at hc
    rw [z1i8 ef] at hc
    exact h0 f l b r b' hc
theorem z1kw {C : Funs} (h0 : ∀ f, Owes P C f) {n T e : TypeId} (hent : Ent P n) (L : Lays.n169 P ρ) (X0 : Builder.Extra P ρ) (hn : ρ.f 169 = n) (hT : ρ.t 72 = T) (he : ρ.t 5 = e) : ∀ f, Owes P (C.add n [] (zl5 T e)) f := by
  subst hT he
  intro f
  by_cases ef : f = n
  · subst ef
    intro l b r b' hc
    unfold Funs.add at hc
    rw [z1c7] at hc
    have hc : zl5 (ρ.t 72) (ρ.t 5) (List SV × Option Box) (normA [] l) b (fun r b => some (r, b)) = some (r, b') := hc
    have hl : normA [] l = l := by cases l <;> rfl
    rw [hl] at hc
    unfold zl5 at hc
    obtain ⟨x, q, rfl, rfl, hc9⟩ := z13j hc
    clear hc
    have hc := hc9
    clear hc9
    unfold args0 at hc
    split at hc
    case h_2 => cases hc
    cases hc
    refine ⟨hent, fun X args hen => ?_⟩
    obtain ⟨r0, hβ, how, ⟨o, ho⟩, hb⟩ := hen.box _ rfl
    obtain ⟨v, hB, hv⟩ := hb (by simp)
    have hsz : args.size = 1 := by rw [hen.size]; rfl
    have a0 : args[0]? = some (.pointer (some ⟨r0, 0, none⟩)) := by
      rw [Array.getElem?_eq_getElem (by omega)]
      obtain ⟨r1, g1, g2⟩ := hen.rep 0 _ _ rfl (Array.getElem?_eq_getElem (by omega))
      rw [hβ] at g1
      cases g1
      rw [((zcb rfl).1 g2).1]; rfl
    rw [z1t2 hsz a0, ← hn]
    refine (z1t6 L X0 r0 v (x : ByteArray).data.toList X.w hB).mono ?_
    rintro e w' ⟨rfl, hBut⟩
    have hY : (X.bld w' r0 none).ow r0 = .box 0 := by simp [Cfg.bld]
    refine ⟨X.bld w' r0 none, rfl, z1eo how hv hBut (fun k hk => by cases hk), r0, ?_, fun B' hB2 => ?_, fun _ id t p hm => by simp at hm⟩
    · exact z4d
    · cases hB2
      refine ⟨⟨hY, ⟨_, Array.getElem?_eq_getElem (Nat.lt_of_lt_of_le hB.lt hBut.size)⟩, fun hm => by cases hm⟩, fun _ => hβ⟩
  · intro l b r b' hc
    unfold Funs.add at hc
    rw [z1i8 ef] at hc
    exact h0 f l b r b' hc
end Go.Ref
namespace Groat
open Go Go.Ref
abbrev Zt0 : Type := (ByteArray × Nat)
abbrev Zt1 : Type := (Int × Int × Int)
abbrev Zt2 : Type := (ByteArray × Int)
abbrev Zt3 : Type := (List (List Int))
abbrev Zt4 : Type := (ByteArray × Bool)
abbrev Zt5 : Type := (Int × Int × Unit)
abbrev Zt6 : Type := (List (Int × Bool))
abbrev Zt7 : Type := (ByteArray × Int × Int)
abbrev Zt8 : Type := (Int × ByteArray × Unit)
abbrev Zt9 : Type := (List Zt4)
abbrev Zt10 : Type := (ByteArray × ByteArray × Unit)
abbrev Zt11 : Type := (List Zt8)
abbrev Zt13 : Type := (Int × Int × Int × Int × Int × Unit)
abbrev Zt14 : Type := (List Zt10)
abbrev Zt15 : Type := (List Zt13)
abbrev Zt16 : Type := (Zt11 × Int × Int)
abbrev Zt17 : Type := (ByteArray × Zt11 × Unit)
abbrev Zt18 : Type := (Int × Int × Zt15 × Unit)
abbrev Zt19 : Type := (List Zt18)
abbrev Zt20 : Type := (Int × Int × Int × ByteArray × Zt14 × Unit)
abbrev Zt21 : Type := (Zt11 × Int × Int × Zt11)
abbrev Zt22 : Type := (List Zt20)
abbrev Zt23 : Type := (Zt17 × Zt5 × Zt17)
abbrev Zt24 : Type := (Zt14 × Zt22 × Unit)
abbrev Zt25 : Type := (ByteArray × Int × Zt17 × Zt5 × Zt17)
abbrev Zt26 : Type := (Zt18 × Zt24 × (List Int) × Zt11 × Unit)
abbrev Zt27 : Type := (List Zt26)
abbrev Zt28 : Type := (Zt24 × Zt18 × Zt18)
abbrev Zt29 : Type := (Zt27 × Int × Unit)
abbrev Zt30 : Type := (Int × Int × Int × Zt24 × Zt18 × Zt18)
end Groat
namespace Groat
open Go Go.Ref
def zik {R : Type} (s_0 : ByteArray) (c_1 : Int) (go0 : ByteArray → Int → Option R) : Option R :=
  (go0 s_0 c_1)
theorem znq {R S : Type} (F : R → Option S) (s_0) (c_1) (go0) : (zik s_0 c_1 go0).bind F = zik s_0 c_1 (fun a0 a1 => (go0 a0 a1).bind F) := by
  simp only [zik, z8, z6, zd, z7, ze, zc]
def zem {R : Type} (s_0 : ByteArray) (c_1 : Int) (nx0 : ByteArray → Int → Option R) (ex0_0 : ByteArray → Option R) : Option R :=
  (bif (decide ((0 : Int) < ((s_0).size : Int))) then (zj (IntKind.i64.wrap (((s_0).size : Int) - (1 : Int))) (s_0).size (bif (decide ((zn s_0 ((IntKind.i64.wrap (((s_0).size : Int) - (1 : Int)))).toNat) = c_1)) then (bif (decide ((0 : Int) ≤ (IntKind.i64.wrap (((s_0).size : Int) - (1 : Int))))) then (bif (decide ((IntKind.i64.wrap (((s_0).size : Int) - (1 : Int))) ≤ (((s_0).size : Nat) : Int))) then (nx0 ((s_0).extract 0 ((IntKind.i64.wrap (((s_0).size : Int) - (1 : Int)))).toNat) c_1) else none) else none) else (ex0_0 s_0))) else (ex0_0 s_0))
theorem zsg {R S : Type} (F : R → Option S) (s_0) (c_1) (nx0) (ex0_0) : (zem s_0 c_1 nx0 ex0_0).bind F = zem s_0 c_1 (fun a0 a1 => (nx0 a0 a1).bind F) (fun a0 => (ex0_0 a0).bind F) := by
  simp only [zem, z8, z6, zd, z7, ze, zc]
def zhk {R : Type} (s_0 : ByteArray) (kr0 : ByteArray → Option R) : Option R :=
  (kr0 s_0)
theorem zm7 {R S : Type} (F : R → Option S) (s_0) (kr0) : (zhk s_0 kr0).bind F = zhk s_0 (fun a0 => (kr0 a0).bind F) := by
  simp only [zhk, z8, z6, zd, z7, ze, zc]
def zw9 : Nat → ByteArray → Int → Option ByteArray
  | 0, _, _ => none
  | k + 1, v0, v1 => zem v0 v1 (fun a0 a1 => zw9 k a0 a1) (fun a0 => some a0)
def Q275 (s_0 : ByteArray) (c_1 : Int) : Option ByteArray :=
  zik s_0 c_1 (fun a0 a1 => (zw9 FUEL a0 a1).bind fun e => zhk e (fun a0 => some a0))
def zf0 {R : Type} (s_0 : ByteArray) (c_1 : Int) (go0 : ByteArray → Int → Option R) : Option R :=
  (go0 s_0 c_1)
theorem zld {R S : Type} (F : R → Option S) (s_0) (c_1) (go0) : (zf0 s_0 c_1 go0).bind F = zf0 s_0 c_1 (fun a0 a1 => (go0 a0 a1).bind F) := by
  simp only [zf0, z8, z6, zd, z7, ze, zc]
def zfc {R : Type} (s_0 : ByteArray) (c_1 : Int) (nx0 : ByteArray → Int → Option R) (ex0_0 : ByteArray → Option R) : Option R :=
  (bif (decide ((0 : Int) < ((s_0).size : Int))) then (zj (0 : Int) (s_0).size (bif (decide ((zn s_0 ((0 : Int)).toNat) = c_1)) then (bif (decide ((1 : Int) ≤ (((s_0).size : Nat) : Int))) then (nx0 ((s_0).extract ((1 : Int)).toNat (s_0).size) c_1) else none) else (ex0_0 s_0))) else (ex0_0 s_0))
theorem zqc {R S : Type} (F : R → Option S) (s_0) (c_1) (nx0) (ex0_0) : (zfc s_0 c_1 nx0 ex0_0).bind F = zfc s_0 c_1 (fun a0 a1 => (nx0 a0 a1).bind F) (fun a0 => (ex0_0 a0).bind F) := by
  simp only [zfc, z8, z6, zd, z7, ze, zc]
def zf9 {R : Type} (s_0 : ByteArray) (kr0 : ByteArray → Option R) : Option R :=
  (kr0 s_0)
theorem znc {R S : Type} (F : R → Option S) (s_0) (kr0) : (zf9 s_0 kr0).bind F = zf9 s_0 (fun a0 => (kr0 a0).bind F) := by
  simp only [zf9, z8, z6, zd, z7, ze, zc]
def zuo : Nat → ByteArray → Int → Option ByteArray
  | 0, _, _ => none
  | k + 1, v0, v1 => zfc v0 v1 (fun a0 a1 => zuo k a0 a1) (fun a0 => some a0)
def Q274 (s_0 : ByteArray) (c_1 : Int) : Option ByteArray :=
  zf0 s_0 c_1 (fun a0 a1 => (zuo FUEL a0 a1).bind fun e => zf9 e (fun a0 => some a0))
def zgb {R : Type} (s_0 : ByteArray) (cutset_1 : ByteArray) (kr0 : ByteArray → Option R) : Option R :=
  (bif (decide (s_0 = (bs []))) then (kr0 s_0) else (bif (decide (cutset_1 = (bs []))) then (kr0 s_0) else (bif (decide (((cutset_1).size : Int) = (1 : Int))) then (zj (0 : Int) (cutset_1).size (bif (decide ((zn cutset_1 ((0 : Int)).toNat) < (128 : Int))) then (zj (0 : Int) (cutset_1).size ((Q275 s_0 (zn cutset_1 ((0 : Int)).toNat)).bind fun r1 => (zj (0 : Int) (cutset_1).size ((Q274 r1 (zn cutset_1 ((0 : Int)).toNat)).bind fun r2 => (kr0 r2))))) else none)) else none)))
theorem z17d {R S : Type} (F : R → Option S) (s_0) (cutset_1) (kr0) : (zgb s_0 cutset_1 kr0).bind F = zgb s_0 cutset_1 (fun a0 => (kr0 a0).bind F) := by
  simp only [zgb, z8, z6, zd, z7, ze, zc]
def Q272 (s_0 : ByteArray) (cutset_1 : ByteArray) : Option ByteArray :=
  zgb s_0 cutset_1 (fun a0 => some a0)
end Groat
namespace Groat
open Go Go.Ref
def zt2 {R : Type} (n_0 : Int) (width_1 : Int) (kr0 : ByteArray → Bool → Option R) (go0 : Int → Nat → Int → Nat → (List Int) → Option R) : Option R :=
  (bif (decide (n_0 < (0 : Int))) then (kr0 (bs []) false) else (bif (decide (width_1 < (1 : Int))) then (kr0 (bs []) false) else (bif (decide ((18 : Int) < width_1)) then (kr0 (bs []) false) else (bif (decide (width_1 = width_1)) then (bif (decide ((0 : Int) ≤ width_1)) then (bif (decide (width_1 * 1 ≤ 140737488355328)) then (go0 n_0 (width_1).toNat (IntKind.i64.wrap (width_1 - (1 : Int))) (width_1).toNat (List.replicate (width_1).toNat (0 : Int))) else none) else none) else none))))
theorem zx9 {R S : Type} (F : R → Option S) (n_0) (width_1) (kr0) (go0) : (zt2 n_0 width_1 kr0 go0).bind F = zt2 n_0 width_1 (fun a0 a1 => (kr0 a0 a1).bind F) (fun a0 a1 a2 a3 a4 => (go0 a0 a1 a2 a3 a4).bind F) := by
  simp only [zt2, z8, z6, zd, z7, ze, zc]
def zs9 {R : Type} (n_0 : Int) (nt6 : Nat) (t7 : Int) (nt19 : Nat) (bt19 : (List Int)) (nx0 : Int → Nat → Int → Nat → (List Int) → Option R) (ex0_0 : Int → Nat → Nat → (List Int) → Option R) : Option R :=
  (bif (decide ((0 : Int) ≤ t7)) then (zj t7 nt6 (bif (Nat.ble ((t7).toNat + 1) (List.length bt19)) then (nx0 (IntKind.i64.wrap (Int.tdiv n_0 (10 : Int))) nt6 (IntKind.i64.wrap (t7 - (1 : Int))) nt19 (List.set bt19 (t7).toNat (IntKind.u8.wrap (IntKind.i64.wrap ((48 : Int) + (Int.tmod n_0 (10 : Int))))))) else none)) else (ex0_0 n_0 nt6 nt19 bt19))
theorem zwm {R S : Type} (F : R → Option S) (n_0) (nt6) (t7) (nt19) (bt19) (nx0) (ex0_0) : (zs9 n_0 nt6 t7 nt19 bt19 nx0 ex0_0).bind F = zs9 n_0 nt6 t7 nt19 bt19 (fun a0 a1 a2 a3 a4 => (nx0 a0 a1 a2 a3 a4).bind F) (fun a0 a1 a2 a3 => (ex0_0 a0 a1 a2 a3).bind F) := by
  simp only [zs9, z8, z6, zd, z7, ze, zc]
def zqp {R : Type} (n_0 : Int) (nt6 : Nat) (nt19 : Nat) (bt19 : (List Int)) (kr0 : ByteArray → Bool → Option R) : Option R :=
  (bif (decide ((0 : Int) < n_0)) then (kr0 (bs []) false) else (bif (Nat.beq nt6 (List.length bt19)) then (kr0 (strOf bt19) true) else none))
theorem zwi {R S : Type} (F : R → Option S) (n_0) (nt6) (nt19) (bt19) (kr0) : (zqp n_0 nt6 nt19 bt19 kr0).bind F = zqp n_0 nt6 nt19 bt19 (fun a0 a1 => (kr0 a0 a1).bind F) := by
  simp only [zqp, z8, z6, zd, z7, ze, zc]
def z11e : Nat → Int → Nat → Int → Nat → (List Int) → Option (Int × Nat × Nat × (List Int))
  | 0, _, _, _, _, _ => none
  | k + 1, v0, v1, v2, v3, v4 => zs9 v0 v1 v2 v3 v4 (fun a0 a1 a2 a3 a4 => z11e k a0 a1 a2 a3 a4) (fun a0 a1 a2 a3 => some (a0, a1, a2, a3))
def Q31 (n_0 : Int) (width_1 : Int) : Option Zt4 :=
  zt2 n_0 width_1 (fun a0 a1 => some (a0, a1)) (fun a0 a1 a2 a3 a4 => (z11e FUEL a0 a1 a2 a3 a4).bind fun e => zqp e.1 e.2.1 e.2.2.1 e.2.2.2 (fun a0 a1 => some (a0, a1)))
def zeu {R : Type} (s_0 : ByteArray) (go0 : Zt0 → Option R) : Option R :=
  (go0 (s_0, 0))
theorem zxb {R S : Type} (F : R → Option S) (s_0) (go0) : (zeu s_0 go0).bind F = zeu s_0 (fun a0 => (go0 a0).bind F) := by
  simp only [zeu, z8, z6, zd, z7, ze, zc]
def zfo {R : Type} (bt6 : Zt0) (ex0_0 : Bool → Option R) (nx0 : Zt0 → Option R) (ex0_1 : Option R) : Option R :=
  (bif (decide (bt6.2 < (bt6.1).size)) then (bif (decide ((((Utf8.decode bt6.1 bt6.2).1 : Nat) : Int) < (48 : Int))) then (ex0_0 false) else (bif (decide ((57 : Int) < (((Utf8.decode bt6.1 bt6.2).1 : Nat) : Int))) then (ex0_0 false) else (nx0 (bt6.1, bt6.2 + (Utf8.decode bt6.1 bt6.2).2)))) else (ex0_1))
theorem zwh {R S : Type} (F : R → Option S) (bt6) (ex0_0) (nx0) (ex0_1) : (zfo bt6 ex0_0 nx0 ex0_1).bind F = zfo bt6 (fun a0 => (ex0_0 a0).bind F) (fun a0 => (nx0 a0).bind F) ((ex0_1).bind F) := by
  simp only [zfo, z8, z6, zd, z7, ze, zc]
def zl6 {R : Type} (t2 : Bool) (kr0 : Bool → Option R) : Option R :=
  (kr0 t2)
theorem zxd {R S : Type} (F : R → Option S) (t2) (kr0) : (zl6 t2 kr0).bind F = zl6 t2 (fun a0 => (kr0 a0).bind F) := by
  simp only [zl6, z8, z6, zd, z7, ze, zc]
def zs5 {R : Type}  (kr0 : Bool → Option R) : Option R :=
  (kr0 true)
theorem zxn {R S : Type} (F : R → Option S)  (kr0 : Bool → Option R) : (zs5 kr0).bind F = zs5 (fun a0 => (kr0 a0).bind F) := by
  simp only [zs5, z8, z6, zd, z7, ze, zc]
def zg3 : Nat → Zt0 → Option (Sum Bool Unit)
  | 0, _ => none
  | k + 1, v0 => zfo v0 (fun a0 => some (.inl a0)) (fun a0 => zg3 k a0) (some (.inr ()))
def Q28 (s_0 : ByteArray) : Option Bool :=
  zeu s_0 (fun a0 => (zg3 FUEL a0).bind fun e => (Sum.elim (fun (we : Bool) => zl6 we (fun a0 => some a0)) (fun (we : Unit) => zs5 (fun a0 => some a0)) e))
def zm6 {R : Type} (s_0 : ByteArray) (kr0 : Int → Bool → Option R) (go0 : Int → Zt0 → Option R) : Option R :=
  (bif (decide (s_0 = (bs []))) then (kr0 (0 : Int) false) else (bif (decide ((18 : Int) < ((s_0).size : Int))) then (kr0 (0 : Int) false) else ((Q28 s_0).bind fun r1 => (bif (!r1) then (kr0 (0 : Int) false) else (go0 (0 : Int) (s_0, 0))))))
theorem zxh {R S : Type} (F : R → Option S) (s_0) (kr0) (go0) : (zm6 s_0 kr0 go0).bind F = zm6 s_0 (fun a0 a1 => (kr0 a0 a1).bind F) (fun a0 a1 => (go0 a0 a1).bind F) := by
  simp only [zm6, z8, z6, zd, z7, ze, zc]
def zs2 {R : Type} (t4 : Int) (bt20 : Zt0) (nx0 : Int → Zt0 → Option R) (ex0_0 : Int → Option R) : Option R :=
  (bif (decide (bt20.2 < (bt20.1).size)) then (nx0 (IntKind.i64.wrap ((IntKind.i64.wrap ((10 : Int) * t4)) + (IntKind.i64.wrap (IntKind.i32.wrap ((((Utf8.decode bt20.1 bt20.2).1 : Nat) : Int) - (48 : Int)))))) (bt20.1, bt20.2 + (Utf8.decode bt20.1 bt20.2).2)) else (ex0_0 t4))
theorem zx1 {R S : Type} (F : R → Option S) (t4) (bt20) (nx0) (ex0_0) : (zs2 t4 bt20 nx0 ex0_0).bind F = zs2 t4 bt20 (fun a0 a1 => (nx0 a0 a1).bind F) (fun a0 => (ex0_0 a0).bind F) := by
  simp only [zs2, z8, z6, zd, z7, ze, zc]
def zp4 {R : Type} (t4 : Int) (kr0 : Int → Bool → Option R) : Option R :=
  (kr0 t4 true)
theorem zxc {R S : Type} (F : R → Option S) (t4) (kr0) : (zp4 t4 kr0).bind F = zp4 t4 (fun a0 a1 => (kr0 a0 a1).bind F) := by
  simp only [zp4, z8, z6, zd, z7, ze, zc]
def z101 : Nat → Int → Zt0 → Option Int
  | 0, _, _ => none
  | k + 1, v0, v1 => zs2 v0 v1 (fun a0 a1 => z101 k a0 a1) (fun a0 => some a0)
def Q29 (s_0 : ByteArray) : Option (Int × Bool) :=
  zm6 s_0 (fun a0 a1 => some (a0, a1)) (fun a0 a1 => (z101 FUEL a0 a1).bind fun e => zp4 e (fun a0 a1 => some (a0, a1)))
def zn5 {R : Type} (s_0 : ByteArray) (width_1 : Int) (kr0 : ByteArray → Bool → Option R) : Option R :=
  (bif (decide (s_0 = (bs []))) then (kr0 (bs []) false) else (bif (decide ((999 : Int) < ((s_0).size : Int))) then (kr0 (bs []) false) else ((Q28 s_0).bind fun r1 => (bif (!r1) then (kr0 (bs []) false) else (bif (decide (width_1 < (1 : Int))) then (kr0 (bs []) false) else (bif (decide ((999 : Int) < width_1)) then (kr0 (bs []) false) else (bif (decide (((s_0).size : Int) ≤ width_1)) then ((strings_Repeat (bs [48]) (IntKind.i64.wrap (width_1 - ((s_0).size : Int)))).bind fun r2 => (bif decide ((r2).size + (s_0).size ≤ 9223372036854775807) then (kr0 (r2 ++ s_0) true) else none)) else (bif (decide ((0 : Int) ≤ (IntKind.i64.wrap (((s_0).size : Int) - width_1)))) then (bif (decide ((IntKind.i64.wrap (((s_0).size : Int) - width_1)) ≤ (((s_0).size : Nat) : Int))) then ((Q272 ((s_0).extract 0 ((IntKind.i64.wrap (((s_0).size : Int) - width_1))).toNat) (bs [48])).bind fun r3 => (bif (!(decide (r3 = (bs [])))) then (kr0 (bs []) false) else (bif (decide ((0 : Int) ≤ (IntKind.i64.wrap (((s_0).size : Int) - width_1)))) then (bif (decide ((IntKind.i64.wrap (((s_0).size : Int) - width_1)) ≤ (((s_0).size : Nat) : Int))) then (kr0 ((s_0).extract ((IntKind.i64.wrap (((s_0).size : Int) - width_1))).toNat (s_0).size) true) else none) else none))) else none) else none))))))))
theorem z1ds {R S : Type} (F : R → Option S) (s_0) (width_1) (kr0) : (zn5 s_0 width_1 kr0).bind F = zn5 s_0 width_1 (fun a0 a1 => (kr0 a0 a1).bind F) := by
  simp only [zn5, z8, z6, zd, z7, ze, zc]
def Q30 (s_0 : ByteArray) (width_1 : Int) : Option Zt4 :=
  zn5 s_0 width_1 (fun a0 a1 => some (a0, a1))
end Groat
namespace Groat
open Go Go.Ref
def Q2_s0 {R : Type} (n_0 : Int) (kr0 : Int → Option R) : Option R :=
  (bif (decide (n_0 < (1 : Int))) then (kr0 (0 : Int)) else (kr0 (IntKind.i64.wrap ((IntKind.i64.wrap (Int.tdiv n_0 (2 : Int))) + (Int.tmod n_0 (2 : Int))))))
theorem z1gx {R S : Type} (F : R → Option S) (n_0) (kr0) : (Q2_s0 n_0 kr0).bind F = Q2_s0 n_0 (fun a0 => (kr0 a0).bind F) := by
  simp only [Q2_s0, z8, z6, zd, z7, ze, zc]
def Q2 (n_0 : Int) : Option Int :=
  Q2_s0 n_0 (fun a0 => some a0)
def Q0_s0 {R : Type} (b_0 : ByteArray) (n_1 : Int) (kr0 : ByteArray → Int → Int → Option R) (go0 : ByteArray → Int → (List Int) → Int → Int → Option R) : Option R :=
  (bif (decide (n_1 < (0 : Int))) then (kr0 (bs []) (1 : Int) (0 : Int)) else (bif (decide ((999 : Int) < n_1)) then (kr0 (bs []) (1 : Int) (0 : Int)) else ((Q2 n_1).bind fun r1 => (bif (decide (((b_0).size : Int) < r1)) then (kr0 (bs []) (2 : Int) ((b_0).size : Int)) else (bif (decide ((0 : Int) ≤ (IntKind.i64.wrap (n_1 + (1 : Int))))) then (bif (decide ((IntKind.i64.wrap (n_1 + (1 : Int))) * 1 ≤ 140737488355328)) then ((Q2 n_1).bind fun r2 => (go0 b_0 n_1 ([] : List Int) r2 (0 : Int))) else none) else none)))))
theorem zzr {R S : Type} (F : R → Option S) (b_0) (n_1) (kr0) (go0) : (Q0_s0 b_0 n_1 kr0 go0).bind F = Q0_s0 b_0 n_1 (fun a0 a1 a2 => (kr0 a0 a1 a2).bind F) (fun a0 a1 a2 a3 a4 => (go0 a0 a1 a2 a3 a4).bind F) := by
  simp only [Q0_s0, z8, z6, zd, z7, ze, zc]
def Q0_s1 {R : Type} (b_0 : ByteArray) (n_1 : Int) (t7 : (List Int)) (t30 : Int) (t31 : Int) (ex0_0 : Int → ByteArray → Int → Int → (List Int) → Option R) (nx0 : ByteArray → Int → (List Int) → Int → Int → Option R) (ex0_1 : Int → (List Int) → Option R) : Option R :=
  (bif (decide (t31 < t30)) then (zj t31 (b_0).size (zj t31 (b_0).size (bif (decide (t31 = (0 : Int))) then (bif (!(decide ((Int.tmod n_1 (2 : Int)) = (0 : Int)))) then (bif (!(decide ((Int.fdiv (zn b_0 (t31).toNat) (2 ^ min ((4 : Int)).toNat 8)) = (0 : Int)))) then (ex0_0 n_1 (bs []) (4 : Int) (0 : Int) t7) else (bif (decide ((9 : Int) < (Int.fdiv (zn b_0 (t31).toNat) (2 ^ min ((4 : Int)).toNat 8)))) then (ex0_0 n_1 (bs []) (3 : Int) t31 t7) else (bif (decide ((9 : Int) < (ibits .and .u8 (zn b_0 (t31).toNat) (15 : Int)))) then (ex0_0 n_1 (bs []) (3 : Int) t31 t7) else (bif (decide (((List.length t7) + (List.length ([(IntKind.u8.wrap ((48 : Int) + (Int.fdiv (zn b_0 (t31).toNat) (2 ^ min ((4 : Int)).toNat 8)))), (IntKind.u8.wrap ((48 : Int) + (ibits .and .u8 (zn b_0 (t31).toNat) (15 : Int))))] : List Int))) * 1 ≤ 140737488355328)) then (nx0 b_0 n_1 (t7 ++ ([(IntKind.u8.wrap ((48 : Int) + (Int.fdiv (zn b_0 (t31).toNat) (2 ^ min ((4 : Int)).toNat 8)))), (IntKind.u8.wrap ((48 : Int) + (ibits .and .u8 (zn b_0 (t31).toNat) (15 : Int))))] : List Int)) t30 (IntKind.i64.wrap (t31 + (1 : Int)))) else none)))) else (bif (decide ((9 : Int) < (Int.fdiv (zn b_0 (t31).toNat) (2 ^ min ((4 : Int)).toNat 8)))) then (ex0_0 n_1 (bs []) (3 : Int) t31 t7) else (bif (decide ((9 : Int) < (ibits .and .u8 (zn b_0 (t31).toNat) (15 : Int)))) then (ex0_0 n_1 (bs []) (3 : Int) t31 t7) else (bif (decide (((List.length t7) + (List.length ([(IntKind.u8.wrap ((48 : Int) + (Int.fdiv (zn b_0 (t31).toNat) (2 ^ min ((4 : Int)).toNat 8)))), (IntKind.u8.wrap ((48 : Int) + (ibits .and .u8 (zn b_0 (t31).toNat) (15 : Int))))] : List Int))) * 1 ≤ 140737488355328)) then (nx0 b_0 n_1 (t7 ++ ([(IntKind.u8.wrap ((48 : Int) + (Int.fdiv (zn b_0 (t31).toNat) (2 ^ min ((4 : Int)).toNat 8)))), (IntKind.u8.wrap ((48 : Int) + (ibits .and .u8 (zn b_0 (t31).toNat) (15 : Int))))] : List Int)) t30 (IntKind.i64.wrap (t31 + (1 : Int)))) else none)))) else (bif (decide ((9 : Int) < (Int.fdiv (zn b_0 (t31).toNat) (2 ^ min ((4 : Int)).toNat 8)))) then (ex0_0 n_1 (bs []) (3 : Int) t31 t7) else (bif (decide ((9 : Int) < (ibits .and .u8 (zn b_0 (t31).toNat) (15 : Int)))) then (ex0_0 n_1 (bs []) (3 : Int) t31 t7) else (bif (decide (((List.length t7) + (List.length ([(IntKind.u8.wrap ((48 : Int) + (Int.fdiv (zn b_0 (t31).toNat) (2 ^ min ((4 : Int)).toNat 8)))), (IntKind.u8.wrap ((48 : Int) + (ibits .and .u8 (zn b_0 (t31).toNat) (15 : Int))))] : List Int))) * 1 ≤ 140737488355328)) then (nx0 b_0 n_1 (t7 ++ ([(IntKind.u8.wrap ((48 : Int) + (Int.fdiv (zn b_0 (t31).toNat) (2 ^ min ((4 : Int)).toNat 8)))), (IntKind.u8.wrap ((48 : Int) + (ibits .and .u8 (zn b_0 (t31).toNat) (15 : Int))))] : List Int)) t30 (IntKind.i64.wrap (t31 + (1 : Int)))) else none)))))) else (ex0_1 n_1 t7))
theorem z11r {R S : Type} (F : R → Option S) (b_0) (n_1) (t7) (t30) (t31) (ex0_0) (nx0) (ex0_1) : (Q0_s1 b_0 n_1 t7 t30 t31 ex0_0 nx0 ex0_1).bind F = Q0_s1 b_0 n_1 t7 t30 t31 (fun a0 a1 a2 a3 a4 => (ex0_0 a0 a1 a2 a3 a4).bind F) (fun a0 a1 a2 a3 a4 => (nx0 a0 a1 a2 a3 a4).bind F) (fun a0 a1 => (ex0_1 a0 a1).bind F) := by
  simp only [Q0_s1, z8, z6, zd, z7, ze, zc]
def Q0_s2 {R : Type} (n_1 : Int) (t4 : ByteArray) (t5 : Int) (t6 : Int) (t7 : (List Int)) (kr0 : ByteArray → Int → Int → Option R) : Option R :=
  (kr0 t4 t5 t6)
theorem z119 {R S : Type} (F : R → Option S) (n_1) (t4) (t5) (t6) (t7) (kr0) : (Q0_s2 n_1 t4 t5 t6 t7 kr0).bind F = Q0_s2 n_1 t4 t5 t6 t7 (fun a0 a1 a2 => (kr0 a0 a1 a2).bind F) := by
  simp only [Q0_s2, z8, z6, zd, z7, ze, zc]
def Q0_s3 {R : Type} (n_1 : Int) (t7 : (List Int)) (kr0 : ByteArray → Int → Int → Option R) : Option R :=
  (bif (decide ((0 : Int) ≤ (Int.tmod n_1 (2 : Int)))) then (bif (decide ((Int.tmod n_1 (2 : Int)) ≤ (((List.length t7) : Nat) : Int))) then (kr0 (strOf (List.drop ((Int.tmod n_1 (2 : Int))).toNat (List.take (List.length t7) t7))) (0 : Int) (0 : Int)) else none) else none)
theorem zz3 {R S : Type} (F : R → Option S) (n_1) (t7) (kr0) : (Q0_s3 n_1 t7 kr0).bind F = Q0_s3 n_1 t7 (fun a0 a1 a2 => (kr0 a0 a1 a2).bind F) := by
  simp only [Q0_s3, z8, z6, zd, z7, ze, zc]
def Q0_l0 : Nat → ByteArray → Int → (List Int) → Int → Int → Option (Sum (Int × ByteArray × Int × Int × (List Int)) (Int × (List Int)))
  | 0, _, _, _, _, _ => none
  | k + 1, v0, v1, v2, v3, v4 => Q0_s1 v0 v1 v2 v3 v4 (fun a0 a1 a2 a3 a4 => some (.inl (a0, a1, a2, a3, a4))) (fun a0 a1 a2 a3 a4 => Q0_l0 k a0 a1 a2 a3 a4) (fun a0 a1 => some (.inr (a0, a1)))
def Q0 (b_0 : ByteArray) (n_1 : Int) : Option Zt7 :=
  Q0_s0 b_0 n_1 (fun a0 a1 a2 => some (a0, a1, a2)) (fun a0 a1 a2 a3 a4 => (Q0_l0 FUEL a0 a1 a2 a3 a4).bind fun e => (Sum.elim (fun (we : (Int × ByteArray × Int × Int × (List Int))) => Q0_s2 we.1 we.2.1 we.2.2.1 we.2.2.2.1 we.2.2.2.2 (fun a0 a1 a2 => some (a0, a1, a2))) (fun (we : (Int × (List Int))) => Q0_s3 we.1 we.2 (fun a0 a1 a2 => some (a0, a1, a2))) e))
def Q1_s0 {R : Type} (s_0 : ByteArray) (kr0 : ByteArray → Bool → Option R) (go0 : ByteArray → (List Int) → Int → Option R) : Option R :=
  (bif (decide ((999 : Int) < ((s_0).size : Int))) then (kr0 (bs []) false) else ((Q28 s_0).bind fun r1 => (bif (!r1) then (kr0 (bs []) false) else (bif (!(decide ((Int.tmod ((s_0).size : Int) (2 : Int)) = (0 : Int)))) then (bif decide (((bs [48])).size + (s_0).size ≤ 9223372036854775807) then (bif (decide ((0 : Int) ≤ (IntKind.i64.wrap (Int.tdiv ((((bs [48]) ++ s_0)).size : Int) (2 : Int))))) then (bif (decide ((IntKind.i64.wrap (Int.tdiv ((((bs [48]) ++ s_0)).size : Int) (2 : Int))) * 1 ≤ 140737488355328)) then (go0 ((bs [48]) ++ s_0) ([] : List Int) (0 : Int)) else none) else none) else none) else (bif (decide ((0 : Int) ≤ (IntKind.i64.wrap (Int.tdiv ((s_0).size : Int) (2 : Int))))) then (bif (decide ((IntKind.i64.wrap (Int.tdiv ((s_0).size : Int) (2 : Int))) * 1 ≤ 140737488355328)) then (go0 s_0 ([] : List Int) (0 : Int)) else none) else none)))))
theorem z11k {R S : Type} (F : R → Option S) (s_0) (kr0) (go0) : (Q1_s0 s_0 kr0 go0).bind F = Q1_s0 s_0 (fun a0 a1 => (kr0 a0 a1).bind F) (fun a0 a1 a2 => (go0 a0 a1 a2).bind F) := by
  simp only [Q1_s0, z8, z6, zd, z7, ze, zc]
def Q1_s1 {R : Type} (s_0 : ByteArray) (t4 : (List Int)) (t5 : Int) (nx0 : ByteArray → (List Int) → Int → Option R) (ex0_0 : (List Int) → Option R) : Option R :=
  (bif (decide (t5 < ((s_0).size : Int))) then (zj t5 (s_0).size (zj (IntKind.i64.wrap (t5 + (1 : Int))) (s_0).size (bif (decide (((List.length t4) + (List.length ([(ibits .or .u8 (IntKind.u8.wrap ((IntKind.u8.wrap ((zn s_0 (t5).toNat) - (48 : Int))) * 2 ^ min ((4 : Int)).toNat 8)) (IntKind.u8.wrap ((zn s_0 ((IntKind.i64.wrap (t5 + (1 : Int)))).toNat) - (48 : Int))))] : List Int))) * 1 ≤ 140737488355328)) then (nx0 s_0 (t4 ++ ([(ibits .or .u8 (IntKind.u8.wrap ((IntKind.u8.wrap ((zn s_0 (t5).toNat) - (48 : Int))) * 2 ^ min ((4 : Int)).toNat 8)) (IntKind.u8.wrap ((zn s_0 ((IntKind.i64.wrap (t5 + (1 : Int)))).toNat) - (48 : Int))))] : List Int)) (IntKind.i64.wrap (t5 + (2 : Int)))) else none))) else (ex0_0 t4))
theorem zzi {R S : Type} (F : R → Option S) (s_0) (t4) (t5) (nx0) (ex0_0) : (Q1_s1 s_0 t4 t5 nx0 ex0_0).bind F = Q1_s1 s_0 t4 t5 (fun a0 a1 a2 => (nx0 a0 a1 a2).bind F) (fun a0 => (ex0_0 a0).bind F) := by
  simp only [Q1_s1, z8, z6, zd, z7, ze, zc]
def Q1_s2 {R : Type} (t4 : (List Int)) (kr0 : ByteArray → Bool → Option R) : Option R :=
  (kr0 (strOf t4) true)
theorem z106 {R S : Type} (F : R → Option S) (t4) (kr0) : (Q1_s2 t4 kr0).bind F = Q1_s2 t4 (fun a0 a1 => (kr0 a0 a1).bind F) := by
  simp only [Q1_s2, z8, z6, zd, z7, ze, zc]
def Q1_l0 : Nat → ByteArray → (List Int) → Int → Option (List Int)
  | 0, _, _, _ => none
  | k + 1, v0, v1, v2 => Q1_s1 v0 v1 v2 (fun a0 a1 a2 => Q1_l0 k a0 a1 a2) (fun a0 => some a0)
def Q1 (s_0 : ByteArray) : Option Zt4 :=
  Q1_s0 s_0 (fun a0 a1 => some (a0, a1)) (fun a0 a1 a2 => (Q1_l0 FUEL a0 a1 a2).bind fun e => Q1_s2 e (fun a0 a1 => some (a0, a1)))
end Groat
namespace Groat
open Go Go.Ref
def Q4_s0 {R : Type} (n_0 : Int) (kr0 : Int → Option R) : Option R :=
  (bif (decide (n_0 < (0 : Int))) then (kr0 (0 : Int)) else (bif (decide ((65535 : Int) < n_0)) then (kr0 (0 : Int)) else (bif (decide ((255 : Int) < n_0)) then (kr0 (IntKind.i64.wrap ((IntKind.i64.wrap ((IntKind.i64.wrap ((0 : Int) + (1 : Int))) + (1 : Int))) + (1 : Int)))) else (bif (decide ((127 : Int) < n_0)) then (kr0 (IntKind.i64.wrap ((IntKind.i64.wrap ((0 : Int) + (1 : Int))) + (1 : Int)))) else (kr0 (IntKind.i64.wrap ((0 : Int) + (1 : Int))))))))
theorem z1gu {R S : Type} (F : R → Option S) (n_0) (kr0) : (Q4_s0 n_0 kr0).bind F = Q4_s0 n_0 (fun a0 => (kr0 a0).bind F) := by
  simp only [Q4_s0, z8, z6, zd, z7, ze, zc]
def Q4 (n_0 : Int) : Option Int :=
  Q4_s0 n_0 (fun a0 => some a0)
def Q3_s0 {R : Type} (b_0 : ByteArray) (at_1 : Int) (kr0 : Int → Int → Int → Option R) (go0 : ByteArray → Int → Int → Int → Int → Int → Option R) : Option R :=
  (bif (decide (at_1 < (0 : Int))) then (kr0 (0 : Int) (0 : Int) (1 : Int)) else (bif (decide (((b_0).size : Int) < at_1)) then (kr0 (0 : Int) (0 : Int) (1 : Int)) else (bif (decide (at_1 = ((b_0).size : Int))) then (kr0 (0 : Int) (0 : Int) (2 : Int)) else (zj at_1 (b_0).size (bif (decide ((127 : Int) < (IntKind.i64.wrap (zn b_0 (at_1).toNat)))) then (bif (decide ((IntKind.i64.wrap (zn b_0 (at_1).toNat)) = (128 : Int))) then (kr0 (0 : Int) (0 : Int) (14 : Int)) else (bif (decide ((130 : Int) < (IntKind.i64.wrap (zn b_0 (at_1).toNat)))) then (kr0 (0 : Int) (0 : Int) (14 : Int)) else (bif (decide ((IntKind.i64.wrap (((b_0).size : Int) - (IntKind.i64.wrap (at_1 + (1 : Int))))) < (IntKind.i64.wrap ((IntKind.i64.wrap (zn b_0 (at_1).toNat)) - (128 : Int))))) then (kr0 (0 : Int) (0 : Int) (2 : Int)) else (go0 b_0 (IntKind.i64.wrap (at_1 + (1 : Int))) (0 : Int) (IntKind.i64.wrap ((IntKind.i64.wrap (zn b_0 (at_1).toNat)) - (128 : Int))) (IntKind.i64.wrap ((IntKind.i64.wrap (zn b_0 (at_1).toNat)) - (128 : Int))) (0 : Int))))) else (bif (decide ((IntKind.i64.wrap (((b_0).size : Int) - (IntKind.i64.wrap (at_1 + (1 : Int))))) < (0 : Int))) then (kr0 (0 : Int) (0 : Int) (2 : Int)) else (go0 b_0 (IntKind.i64.wrap (at_1 + (1 : Int))) (IntKind.i64.wrap (zn b_0 (at_1).toNat)) (0 : Int) (0 : Int) (0 : Int))))))))
theorem z118 {R S : Type} (F : R → Option S) (b_0) (at_1) (kr0) (go0) : (Q3_s0 b_0 at_1 kr0 go0).bind F = Q3_s0 b_0 at_1 (fun a0 a1 a2 => (kr0 a0 a1 a2).bind F) (fun a0 a1 a2 a3 a4 a5 => (go0 a0 a1 a2 a3 a4 a5).bind F) := by
  simp only [Q3_s0, z8, z6, zd, z7, ze, zc]
def Q3_s1 {R : Type} (b_0 : ByteArray) (at_1 : Int) (t7 : Int) (t8 : Int) (t44 : Int) (t45 : Int) (nx0 : ByteArray → Int → Int → Int → Int → Int → Option R) (ex0_0 : Int → Int → Int → Option R) : Option R :=
  (bif (decide (t45 < t44)) then (zj (IntKind.i64.wrap (at_1 + t45)) (b_0).size (nx0 b_0 at_1 (ibits .or .i64 (IntKind.i64.wrap (t7 * 2 ^ min ((8 : Int)).toNat 64)) (IntKind.i64.wrap (zn b_0 ((IntKind.i64.wrap (at_1 + t45))).toNat))) t8 t44 (IntKind.i64.wrap (t45 + (1 : Int))))) else (ex0_0 at_1 t7 t8))
theorem z11x {R S : Type} (F : R → Option S) (b_0) (at_1) (t7) (t8) (t44) (t45) (nx0) (ex0_0) : (Q3_s1 b_0 at_1 t7 t8 t44 t45 nx0 ex0_0).bind F = Q3_s1 b_0 at_1 t7 t8 t44 t45 (fun a0 a1 a2 a3 a4 a5 => (nx0 a0 a1 a2 a3 a4 a5).bind F) (fun a0 a1 a2 => (ex0_0 a0 a1 a2).bind F) := by
  simp only [Q3_s1, z8, z6, zd, z7, ze, zc]
def Q3_s2 {R : Type} (at_1 : Int) (t7 : Int) (t8 : Int) (kr0 : Int → Int → Int → Option R) : Option R :=
  ((Q4 t7).bind fun r1 => (bif (!(decide (r1 = (IntKind.i64.wrap (t8 + (1 : Int)))))) then (kr0 (0 : Int) (0 : Int) (14 : Int)) else (kr0 t7 (IntKind.i64.wrap (at_1 + t8)) (0 : Int))))
theorem z104 {R S : Type} (F : R → Option S) (at_1) (t7) (t8) (kr0) : (Q3_s2 at_1 t7 t8 kr0).bind F = Q3_s2 at_1 t7 t8 (fun a0 a1 a2 => (kr0 a0 a1 a2).bind F) := by
  simp only [Q3_s2, z8, z6, zd, z7, ze, zc]
def Q3_l0 : Nat → ByteArray → Int → Int → Int → Int → Int → Option Zt1
  | 0, _, _, _, _, _, _ => none
  | k + 1, v0, v1, v2, v3, v4, v5 => Q3_s1 v0 v1 v2 v3 v4 v5 (fun a0 a1 a2 a3 a4 a5 => Q3_l0 k a0 a1 a2 a3 a4 a5) (fun a0 a1 a2 => some (a0, a1, a2))
def Q3 (b_0 : ByteArray) (at_1 : Int) : Option Zt1 :=
  Q3_s0 b_0 at_1 (fun a0 a1 a2 => some (a0, a1, a2)) (fun a0 a1 a2 a3 a4 a5 => (Q3_l0 FUEL a0 a1 a2 a3 a4 a5).bind fun e => Q3_s2 e.1 e.2.1 e.2.2 (fun a0 a1 a2 => some (a0, a1, a2)))
end Groat
