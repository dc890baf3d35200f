-- PRINTED by print.py (a twelfth state) out of the translation. Not trusted: Lean checks it.
import Derived.Test.YtkmffeicgpocgaaDoorPx0
import Derived.Test.YtkmffeicgpocgaaDoorPx6
import Derived.Test.YtkmffeicgpocgaaDoorPx9
namespace Go.Proofs.YtkmffeicgpocgaaDoor.P
open Go.RowKit Go.Proofs.YtkmffeicgpocgaaDoorW.PrintWords Go.Proofs.YtkmffeicgpocgaaDoorW.PrintLast Go.Proofs.YtkmffeicgpocgaaDoorW.PrintMore
attribute [local go_sem] max2_int min2_int max_two min_two max_three min_three max_four min_four   -- for this text's walks alone
set_option linter.unusedVariables false
set_option linter.unusedSimpArgs false

/-! ### gazetteref14_Join: function 13 -/
mutual
def gazetteref14_Join.j0 : Nat → List (S48) → List (S48) → Bool → Option ((List (S48)) × List Int × List Int × Int)
  | 0, _, _, _ => none
  | k + 1, x0, x1, x27 => if x27 = true then (some (([] : List (S48)), ([] : List Int), ([] : List Int), 1)) else (if (wrap64 ((x0.length : Int) + (x1.length : Int))) > 4096 then (some (([] : List (S48)), ([] : List Int), ([] : List Int), 143)) else (gazetteref14_Join.l0 k x0 x1 ([] : List (S48)) ([] : List Int) ([] : List Int)))
def gazetteref14_Join.l0 : Nat → List (S48) → List (S48) → List (S48) → List Int → List Int → Option ((List (S48)) × List Int × List Int × Int)
  | 0, _, _, _, _, _ => none
  | k + 1, x0, x1, x10, x11, x12 => if (wrap64 ((x0.length : Int) + (x1.length : Int))) > 0 then (if (x0.length : Int) > 0 then (if 0 < (x0.length : Int) then ((gazetteref14_lower.f k x1 ((rd_T48 x0 0).f0) ((rd_T48 x0 0).f1) ((rd_T48 x0 0).f2) ((rd_T48 x0 0).f3) ((rd_T48 x0 0).f4)).bind fun t259 => (gazetteref14_Join.j2 k x0 x1 x10 x11 x12 (!t259) false)) else (none)) else (gazetteref14_Join.j2 k x0 x1 x10 x11 x12 false false)) else (if x11.length < 17592186044416 then (if x12.length < 17592186044416 then (some (x10, (x11 ++ [IntKind.u64.wrap ((x10.length : Int))]), (x12 ++ [IntKind.u64.wrap ((x10.length : Int))]), 0)) else (none)) else (none))
def gazetteref14_Join.j2 : Nat → List (S48) → List (S48) → List (S48) → List Int → List Int → Bool → Bool → Option ((List (S48)) × List Int × List Int × Int)
  | 0, _, _, _, _, _, _, _ => none
  | k + 1, x0, x1, x10, x11, x12, x13, x14 => if x13 = true then (gazetteref14_Join.j3 k x0 x1 x10 x11 x12 x13 x14 false) else (gazetteref14_Join.j3 k x0 x1 x10 x11 x12 x13 x14 (decide ((x1.length : Int) > 0)))
def gazetteref14_Join.j3 : Nat → List (S48) → List (S48) → List (S48) → List Int → List Int → Bool → Bool → Bool → Option ((List (S48)) × List Int × List Int × Int)
  | 0, _, _, _, _, _, _, _, _ => none
  | k + 1, x0, x1, x10, x11, x12, x13, x14, x56 => if x56 = true then (if 0 < (x1.length : Int) then ((gazetteref14_lower.f k x0 ((rd_T48 x1 0).f0) ((rd_T48 x1 0).f1) ((rd_T48 x1 0).f2) ((rd_T48 x1 0).f3) ((rd_T48 x1 0).f4)).bind fun t261 => (gazetteref14_Join.j4 k x0 x1 x10 x11 x12 x13 (!t261))) else (none)) else (gazetteref14_Join.j4 k x0 x1 x10 x11 x12 x13 x14)
def gazetteref14_Join.j4 : Nat → List (S48) → List (S48) → List (S48) → List Int → List Int → Bool → Bool → Option ((List (S48)) × List Int × List Int × Int)
  | 0, _, _, _, _, _, _, _ => none
  | k + 1, x0, x1, x10, x11, x12, x13, x14 => if x13 = true then (if x11.length < 17592186044416 then (if 0 < (x0.length : Int) then ((gazetteref14_at.f ((rd_T48 x0 0).f0) ((rd_T48 x0 0).f1) ((rd_T48 x0 0).f2) ((rd_T48 x0 0).f3) ((rd_T48 x0 0).f4) (x10.length : Int)).bind fun bt266 => (if x10.length < 2199023255552 then (if 1 ≤ (x0.length : Int) then (gazetteref14_Join.l0 k (x0.drop 1) x1 (x10 ++ [(⟨bt266.1, bt266.2.1, bt266.2.2.1, bt266.2.2.2.1, bt266.2.2.2.2⟩ : S48)]) (x11 ++ [IntKind.u64.wrap ((x10.length : Int))]) x12) else (none)) else (none))) else (none)) else (none)) else (if x14 = true then (if x12.length < 17592186044416 then (if 0 < (x1.length : Int) then ((gazetteref14_at.f ((rd_T48 x1 0).f0) ((rd_T48 x1 0).f1) ((rd_T48 x1 0).f2) ((rd_T48 x1 0).f3) ((rd_T48 x1 0).f4) (x10.length : Int)).bind fun bt285 => (if x10.length < 2199023255552 then (if 1 ≤ (x1.length : Int) then (gazetteref14_Join.l0 k x0 (x1.drop 1) (x10 ++ [(⟨bt285.1, bt285.2.1, bt285.2.2.1, bt285.2.2.2.1, bt285.2.2.2.2⟩ : S48)]) x11 (x12 ++ [IntKind.u64.wrap ((x10.length : Int))])) else (none)) else (none))) else (none)) else (none)) else (some (([] : List (S48)), ([] : List Int), ([] : List Int), 145)))
end
def gazetteref14_Join.f (k : Nat) (l0 : List (S48)) (l1 : List (S48)) : Option ((List (S48)) × List Int × List Int × Int) := (gazetteref14_Log.f k l0).bind fun t250 => ((gazetteref14_Log.f k l1).bind fun t251 => (if t250 = true then (gazetteref14_Join.j0 k l0 l1 (!t251)) else (gazetteref14_Join.j0 k l0 l1 true)))
theorem gazetteref14_Join.mono_l : ∀ k, (∀ y0 y1 y2, LeO (gazetteref14_Join.j0 k y0 y1 y2) (gazetteref14_Join.j0 (k + 1) y0 y1 y2)) ∧ (∀ y0 y1 y2 y3 y4, LeO (gazetteref14_Join.l0 k y0 y1 y2 y3 y4) (gazetteref14_Join.l0 (k + 1) y0 y1 y2 y3 y4)) ∧ (∀ y0 y1 y2 y3 y4 y5 y6, LeO (gazetteref14_Join.j2 k y0 y1 y2 y3 y4 y5 y6) (gazetteref14_Join.j2 (k + 1) y0 y1 y2 y3 y4 y5 y6)) ∧ (∀ y0 y1 y2 y3 y4 y5 y6 y7, LeO (gazetteref14_Join.j3 k y0 y1 y2 y3 y4 y5 y6 y7) (gazetteref14_Join.j3 (k + 1) y0 y1 y2 y3 y4 y5 y6 y7)) ∧ (∀ y0 y1 y2 y3 y4 y5 y6, LeO (gazetteref14_Join.j4 k y0 y1 y2 y3 y4 y5 y6) (gazetteref14_Join.j4 (k + 1) y0 y1 y2 y3 y4 y5 y6))
  | 0 => ⟨fun _ _ _ r h => by simp [gazetteref14_Join.j0] at h, fun _ _ _ _ _ r h => by simp [gazetteref14_Join.l0] at h, fun _ _ _ _ _ _ _ r h => by simp [gazetteref14_Join.j2] at h, fun _ _ _ _ _ _ _ _ r h => by simp [gazetteref14_Join.j3] at h, fun _ _ _ _ _ _ _ r h => by simp [gazetteref14_Join.j4] at h⟩
  | k + 1 => by
    obtain ⟨ih0, ih1, ih2, ih3, ih4⟩ := gazetteref14_Join.mono_l k
    refine ⟨?_, ?_, ?_, ?_, ?_⟩
    · intro y0 y1 y2
      unfold gazetteref14_Join.j0
      repeat' first
      | (with_reducible exact ih0 _ _ _)
      | (with_reducible exact ih1 _ _ _ _ _)
      | (with_reducible exact ih2 _ _ _ _ _ _ _)
      | (with_reducible exact ih3 _ _ _ _ _ _ _ _)
      | (with_reducible exact ih4 _ _ _ _ _ _ _)
      | (with_reducible exact gazetteref14_Log.mono _ _)
      | (with_reducible exact gazetteref14_lower.mono _ _ _ _ _ _ _)
      | (with_reducible exact LeO.refl _)
      | (with_reducible exact LeO.none _)
      | (with_reducible refine LeO.ite ?_ ?_)
      | (with_reducible refine LeO.bind ?_ (fun _ => ?_))
      | exact ih0 _ _ _
      | exact ih1 _ _ _ _ _
      | exact ih2 _ _ _ _ _ _ _
      | exact ih3 _ _ _ _ _ _ _ _
      | exact ih4 _ _ _ _ _ _ _
      | exact gazetteref14_Log.mono _ _
      | exact gazetteref14_lower.mono _ _ _ _ _ _ _
      | exact LeO.none _
      | refine LeO.ite ?_ ?_
      | refine LeO.bind ?_ (fun _ => ?_)
    · intro y0 y1 y2 y3 y4
      unfold gazetteref14_Join.l0
      repeat' first
      | (with_reducible exact ih0 _ _ _)
      | (with_reducible exact ih1 _ _ _ _ _)
      | (with_reducible exact ih2 _ _ _ _ _ _ _)
      | (with_reducible exact ih3 _ _ _ _ _ _ _ _)
      | (with_reducible exact ih4 _ _ _ _ _ _ _)
      | (with_reducible exact gazetteref14_Log.mono _ _)
      | (with_reducible exact gazetteref14_lower.mono _ _ _ _ _ _ _)
      | (with_reducible exact LeO.refl _)
      | (with_reducible exact LeO.none _)
      | (with_reducible refine LeO.ite ?_ ?_)
      | (with_reducible refine LeO.bind ?_ (fun _ => ?_))
      | exact ih0 _ _ _
      | exact ih1 _ _ _ _ _
      | exact ih2 _ _ _ _ _ _ _
      | exact ih3 _ _ _ _ _ _ _ _
      | exact ih4 _ _ _ _ _ _ _
      | exact gazetteref14_Log.mono _ _
      | exact gazetteref14_lower.mono _ _ _ _ _ _ _
      | exact LeO.none _
      | refine LeO.ite ?_ ?_
      | refine LeO.bind ?_ (fun _ => ?_)
    · intro y0 y1 y2 y3 y4 y5 y6
      unfold gazetteref14_Join.j2
      repeat' first
      | (with_reducible exact ih0 _ _ _)
      | (with_reducible exact ih1 _ _ _ _ _)
      | (with_reducible exact ih2 _ _ _ _ _ _ _)
      | (with_reducible exact ih3 _ _ _ _ _ _ _ _)
      | (with_reducible exact ih4 _ _ _ _ _ _ _)
      | (with_reducible exact gazetteref14_Log.mono _ _)
      | (with_reducible exact gazetteref14_lower.mono _ _ _ _ _ _ _)
      | (with_reducible exact LeO.refl _)
      | (with_reducible exact LeO.none _)
      | (with_reducible refine LeO.ite ?_ ?_)
      | (with_reducible refine LeO.bind ?_ (fun _ => ?_))
      | exact ih0 _ _ _
      | exact ih1 _ _ _ _ _
      | exact ih2 _ _ _ _ _ _ _
      | exact ih3 _ _ _ _ _ _ _ _
      | exact ih4 _ _ _ _ _ _ _
      | exact gazetteref14_Log.mono _ _
      | exact gazetteref14_lower.mono _ _ _ _ _ _ _
      | exact LeO.none _
      | refine LeO.ite ?_ ?_
      | refine LeO.bind ?_ (fun _ => ?_)
    · intro y0 y1 y2 y3 y4 y5 y6 y7
      unfold gazetteref14_Join.j3
      repeat' first
      | (with_reducible exact ih0 _ _ _)
      | (with_reducible exact ih1 _ _ _ _ _)
      | (with_reducible exact ih2 _ _ _ _ _ _ _)
      | (with_reducible exact ih3 _ _ _ _ _ _ _ _)
      | (with_reducible exact ih4 _ _ _ _ _ _ _)
      | (with_reducible exact gazetteref14_Log.mono _ _)
      | (with_reducible exact gazetteref14_lower.mono _ _ _ _ _ _ _)
      | (with_reducible exact LeO.refl _)
      | (with_reducible exact LeO.none _)
      | (with_reducible refine LeO.ite ?_ ?_)
      | (with_reducible refine LeO.bind ?_ (fun _ => ?_))
      | exact ih0 _ _ _
      | exact ih1 _ _ _ _ _
      | exact ih2 _ _ _ _ _ _ _
      | exact ih3 _ _ _ _ _ _ _ _
      | exact ih4 _ _ _ _ _ _ _
      | exact gazetteref14_Log.mono _ _
      | exact gazetteref14_lower.mono _ _ _ _ _ _ _
      | exact LeO.none _
      | refine LeO.ite ?_ ?_
      | refine LeO.bind ?_ (fun _ => ?_)
    · intro y0 y1 y2 y3 y4 y5 y6
      unfold gazetteref14_Join.j4
      repeat' first
      | (with_reducible exact ih0 _ _ _)
      | (with_reducible exact ih1 _ _ _ _ _)
      | (with_reducible exact ih2 _ _ _ _ _ _ _)
      | (with_reducible exact ih3 _ _ _ _ _ _ _ _)
      | (with_reducible exact ih4 _ _ _ _ _ _ _)
      | (with_reducible exact gazetteref14_Log.mono _ _)
      | (with_reducible exact gazetteref14_lower.mono _ _ _ _ _ _ _)
      | (with_reducible exact LeO.refl _)
      | (with_reducible exact LeO.none _)
      | (with_reducible refine LeO.ite ?_ ?_)
      | (with_reducible refine LeO.bind ?_ (fun _ => ?_))
      | exact ih0 _ _ _
      | exact ih1 _ _ _ _ _
      | exact ih2 _ _ _ _ _ _ _
      | exact ih3 _ _ _ _ _ _ _ _
      | exact ih4 _ _ _ _ _ _ _
      | exact gazetteref14_Log.mono _ _
      | exact gazetteref14_lower.mono _ _ _ _ _ _ _
      | exact LeO.none _
      | refine LeO.ite ?_ ?_
      | refine LeO.bind ?_ (fun _ => ?_)
theorem gazetteref14_Join.mono : ∀ a0 a1 k, LeO (gazetteref14_Join.f k a0 a1) (gazetteref14_Join.f (k + 1) a0 a1) := by
  intro a0 a1 k
  obtain ⟨ih0, ih1, ih2, ih3, ih4⟩ := gazetteref14_Join.mono_l k
  unfold gazetteref14_Join.f
  repeat' first
      | (with_reducible exact ih0 _ _ _)
      | (with_reducible exact ih1 _ _ _ _ _)
      | (with_reducible exact ih2 _ _ _ _ _ _ _)
      | (with_reducible exact ih3 _ _ _ _ _ _ _ _)
      | (with_reducible exact ih4 _ _ _ _ _ _ _)
      | (with_reducible exact gazetteref14_Log.mono _ _)
      | (with_reducible exact gazetteref14_lower.mono _ _ _ _ _ _ _)
      | (with_reducible exact LeO.refl _)
      | (with_reducible exact LeO.none _)
      | (with_reducible refine LeO.ite ?_ ?_)
      | (with_reducible refine LeO.bind ?_ (fun _ => ?_))
      | exact ih0 _ _ _
      | exact ih1 _ _ _ _ _
      | exact ih2 _ _ _ _ _ _ _
      | exact ih3 _ _ _ _ _ _ _ _
      | exact ih4 _ _ _ _ _ _ _
      | exact gazetteref14_Log.mono _ _
      | exact gazetteref14_lower.mono _ _ _ _ _ _ _
      | exact LeO.none _
      | refine LeO.ite ?_ ?_
      | refine LeO.bind ?_ (fun _ => ?_)
set_option maxHeartbeats 8000000 in
set_option maxRecDepth 100000 in
theorem gazetteref14_Join.calls (k : Nat) (P0_ : Nat → Prop) (A0 : Option Addr) (c0 : Nat) (l0 : List (S48)) (P1_ : Nat → Prop) (A1 : Option Addr) (c1 : Nat) (l1 : List (S48)) (r1 : List (S48)) (r2 : List Int) (r3 : List Int) (r4 : Int) (w : World) (hs0 : Kd.V k48 48 w w.heap.size (fun k_ => P0_ k_) (.slice A0 l0.length c0) l0) (hs1 : Kd.V k48 48 w w.heap.size (fun k_ => P1_ k_) (.slice A1 l1.length c1) l1) (h : gazetteref14_Join.f k l0 l1 = some (r1, r2, r3, r4)) :
    Calls Tryd.prog 13 #[.slice A0 l0.length c0, .slice A1 l1.length c1] w fun e w' => ∃ v0_ v1_ v2_ : Value, e = .returned (.tuple #[v0_, v1_, v2_, .int .i64 r4]) ∧ Kd.S k48 48 w' w.heap.size (fun k_ => (w.heap.size ≤ k_)) v0_ r1 ∧ Kd.R (Kd.int .u64) 37 w' w.heap.size (fun k_ => (w.heap.size ≤ k_) ∧ some k_ ≠ (v2_ : Value).ownBlock) v1_ r2 ∧ Kd.R (Kd.int .u64) 37 w' w.heap.size (fun k_ => (w.heap.size ≤ k_) ∧ some k_ ≠ (v1_ : Value).ownBlock) v2_ r3 ∧ Below w.heap.size w w' := by
  have hu48 := Tryd.underlying48
  have HO0 := Aside0.mk (show Kd.V k48 48 w w.heap.size (fun k_ => ((P0_ k_ ∨ P1_ k_) ∨ w.heap.size ≤ k_)) (.slice A0 l0.length c0) l0 from Kd.V_mono hs0 (fun k_ hk => .inl (.inl hk)))
  have HO1 := Aside0.mk (show Kd.V k48 48 w w.heap.size (fun k_ => ((P0_ k_ ∨ P1_ k_) ∨ w.heap.size ≤ k_)) (.slice A1 l1.length c1) l1 from Kd.V_mono hs1 (fun k_ hk => .inl (.inr hk)))
  have HB := Aside0.mk (Below.refl w.heap.size w)
  have H : ((gazetteref14_Log.f k l0).bind fun t250 => ((gazetteref14_Log.f k l1).bind fun t251 => (if t250 = true then (gazetteref14_Join.j0 k l0 l1 (!t251)) else (gazetteref14_Join.j0 k l0 l1 true)))) = some (r1, r2, r3, r4) := h
  clear h
  replace H := Option.bind_eq_some_iff.mp H
  obtain ⟨t250, A30, H⟩ := H
  replace H : ((gazetteref14_Log.f k l1).bind fun t251 => (if t250 = true then (gazetteref14_Join.j0 k l0 l1 (!t251)) else (gazetteref14_Join.j0 k l0 l1 true))) = some (r1, r2, r3, r4) := H
  have A3 := Aside0.mk A30
  clear A30
  replace H := Option.bind_eq_some_iff.mp H
  obtain ⟨t251, A40, H⟩ := H
  replace H : (if t250 = true then (gazetteref14_Join.j0 k l0 l1 (!t251)) else (gazetteref14_Join.j0 k l0 l1 true)) = some (r1, r2, r3, r4) := H
  have A4 := Aside0.mk A40
  clear A40
  have HC5 := Aside0.mk H
  clear H
  go_enter Tryd.func13, Tryd.ntmps13
  go_upto_region 3 with (first | ((with_reducible refine gate_callee (f := 25) rfl ?_); refine goesL_ (some 19) rfl rfl Tryd.func25 (by kernel_rfl) rfl #[.slice A0 l0.length c0] rfl (by (try simp only [List.map_toArray, List.map_cons, List.map_nil]); first | done | rfl | (simp only [List.length_drop, List.length_take]; rfl)) ?_; (with_reducible refine (gazetteref14_Log.calls k _ _ l0 t250 _ ?side1 ?side2 A3.out).mono ?_); (case side1 => repeat (first | exact (Kd.V_reads' HO0.out).2.2 | (with_reducible refine Kd.C_alloc ?_ _) | (with_reducible refine Kd.C_drewN ?_ _) | (with_reducible refine Kd.C_drew ?_))); (case side2 => exact (Kd.V_reads' HO0.out).2.1); rintro e w' ⟨rfl, ⟨nd, rfl⟩⟩; refine ⟨_, rfl, ?_⟩) | ((with_reducible refine gate_callee (f := 25) rfl ?_); refine goesL_ (some 21) rfl rfl Tryd.func25 (by kernel_rfl) rfl #[.slice A1 l1.length c1] rfl (by (try simp only [List.map_toArray, List.map_cons, List.map_nil]); first | done | rfl | (simp only [List.length_drop, List.length_take]; rfl)) ?_; (with_reducible refine (gazetteref14_Log.calls k _ _ l1 t251 _ ?side1 ?side2 A4.out).mono ?_); (case side1 => repeat (first | exact (Kd.V_reads' HO1.out).2.2 | (with_reducible refine Kd.C_alloc ?_ _) | (with_reducible refine Kd.C_drewN ?_ _) | (with_reducible refine Kd.C_drew ?_))); (case side2 => exact (Kd.V_reads' HO1.out).2.1); rintro e w' ⟨rfl, ⟨nd, rfl⟩⟩; refine ⟨_, rfl, ?_⟩))
  (try simp only [Act.put, List.setIfInBounds_toArray, List.set_cons_zero, List.set_cons_succ])
  go_cut [27] (fun v27 wc => ∃ (kq : Nat) (x27_4 : Bool), v27 = .bool x27_4 ∧ Aside0 (gazetteref14_Join.j0 kq l0 l1 x27_4 = some (r1, r2, r3, r4)) ∧ Aside0 (kq ≤ k) ∧ Aside0 (Kd.V k48 48 wc w.heap.size (fun k_ => ((P0_ k_ ∨ P1_ k_) ∨ w.heap.size ≤ k_)) (.slice A0 l0.length c0) l0) ∧ Aside0 (Kd.V k48 48 wc w.heap.size (fun k_ => ((P0_ k_ ∨ P1_ k_) ∨ w.heap.size ≤ k_)) (.slice A1 l1.length c1) l1) ∧ Aside0 (Below w.heap.size w wc))
  case first =>
    have H := HC5.out
    clear HC5
    by_cases c6 : t250 = true
    · subst c6
      have H1 : (gazetteref14_Join.j0 k l0 l1 (!t251)) = some (r1, r2, r3, r4) := by rw [if_pos rfl] at H; exact H
      clear H
      have H := H1
      clear H1
      have H' := Aside0.mk H
      clear H
      go_wp2
      go_meet
      case rel => exact ⟨_, (!t251), (by first | rfl | (simp; done) | (simp [*]; done)), H', ⟨by first | omega | exact Nat.le_refl _⟩, ⟨by (with_reducible repeat (first | apply Kd.V_alloc | apply Kd.V_drewN | apply Kd.V_drew)); exact HO0.out⟩, ⟨by (with_reducible repeat (first | apply Kd.V_alloc | apply Kd.V_drewN | apply Kd.V_drew)); exact HO1.out⟩, ⟨by repeat (first | (with_reducible first | exact HB.out | apply below_alloc | apply pw_below_drewN | apply below_drew1) | exact HB.out)⟩⟩
    · replace c6 := Bool.eq_false_iff.mpr c6
      subst c6
      have H1 : (gazetteref14_Join.j0 k l0 l1 true) = some (r1, r2, r3, r4) := by rw [if_neg (show ¬ (false = true) by decide)] at H; exact H
      clear H
      have H := H1
      clear H1
      have H' := Aside0.mk H
      clear H
      go_wp2
      go_meet
      case rel => exact ⟨_, (true), (by first | rfl | (simp; done) | (simp [*]; done)), H', ⟨by first | omega | exact Nat.le_refl _⟩, ⟨by (with_reducible repeat (first | apply Kd.V_alloc | apply Kd.V_drewN | apply Kd.V_drew)); exact HO0.out⟩, ⟨by (with_reducible repeat (first | apply Kd.V_alloc | apply Kd.V_drewN | apply Kd.V_drew)); exact HO1.out⟩, ⟨by repeat (first | (with_reducible first | exact HB.out | apply below_alloc | apply pw_below_drewN | apply below_drew1) | exact HB.out)⟩⟩
  case rest =>
    clear HC5
    try clear c1
    try clear c2
    try clear p2
    try clear c6
    obtain ⟨kq, x27_4, rfl, HA, HJ4, HO_0, HO_1, HB⟩ := hcut
    cases kq with
    | zero => exact absurd HA.out (by simp [gazetteref14_Join.j0])
    | succ kj4 =>
      have H := HA.out
      clear HA
      simp only [gazetteref14_Join.j0] at H
      by_cases c7 : x27_4 = true
      · subst c7
        have H1 : (some (([] : List (S48)), ([] : List Int), ([] : List Int), 1)) = some (r1, r2, r3, r4) := by rw [if_pos rfl] at H; exact H
        clear H
        have H := H1
        clear H1
        simp only [Option.some.injEq, Prod.mk.injEq] at H
        obtain ⟨rfl, rfl, rfl, rfl⟩ := H
        go_wp2
        refine bodyPost_ret (results_list (rs := [.tmp 4, .tmp 5, .tmp 6, .tmp 7]) rfl (by simp) (.tmp (.tmp (.tmp (.tmp .nil))))) rfl ?_
        exact ⟨_, _, _, by first | rfl | (simp [errW_none, errW_some] <;> rfl) | (simp [*, errW_none, errW_some] <;> rfl), by first | exact Kd.S_nil _ _ _ _ _ | exact Kd.N_nil _ _ _ _ _ | exact Kd.V_nil _ _ _ _ _ | exact Kd.Q_nil _ _ _ _ _ | exact Kd.R_nil _ _ _ _ _, by first | exact Kd.R_nil _ _ _ _ _ | exact Kd.N_nil _ _ _ _ _ | exact Kd.V_nil _ _ _ _ _ | exact Kd.Q_nil _ _ _ _ _ | exact Kd.S_nil _ _ _ _ _, by first | exact Kd.R_nil _ _ _ _ _ | exact Kd.N_nil _ _ _ _ _ | exact Kd.V_nil _ _ _ _ _ | exact Kd.Q_nil _ _ _ _ _ | exact Kd.S_nil _ _ _ _ _, by repeat (first | (with_reducible first | exact HB.out | apply below_alloc | apply pw_below_drewN | apply below_drew1) | exact HB.out)⟩
      · replace c7 := Bool.eq_false_iff.mpr c7
        subst c7
        have H1 : (if (wrap64 ((l0.length : Int) + (l1.length : Int))) > 4096 then (some (([] : List (S48)), ([] : List Int), ([] : List Int), 143)) else (gazetteref14_Join.l0 kj4 l0 l1 ([] : List (S48)) ([] : List Int) ([] : List Int))) = some (r1, r2, r3, r4) := by rw [if_neg (show ¬ (false = true) by decide)] at H; exact H
        clear H
        have H := H1
        clear H1
        by_cases c8 : (wrap64 ((l0.length : Int) + (l1.length : Int))) > 4096
        · rw [if_pos c8] at H
          have c8b0 : decide (4096 < (wrap64 ((l0.length : Int) + (l1.length : Int)))) = true := decide_eq_true c8
          clear c8
          simp only [Option.some.injEq, Prod.mk.injEq] at H
          obtain ⟨rfl, rfl, rfl, rfl⟩ := H
          go_wp2
          refine bodyPost_ret (results_list (rs := [.tmp 4, .tmp 5, .tmp 6, .tmp 7]) rfl (by simp) (.tmp (.tmp (.tmp (.tmp .nil))))) rfl ?_
          exact ⟨_, _, _, by first | rfl | (simp [errW_none, errW_some] <;> rfl) | (simp [*, errW_none, errW_some] <;> rfl), by first | exact Kd.S_nil _ _ _ _ _ | exact Kd.N_nil _ _ _ _ _ | exact Kd.V_nil _ _ _ _ _ | exact Kd.Q_nil _ _ _ _ _ | exact Kd.R_nil _ _ _ _ _, by first | exact Kd.R_nil _ _ _ _ _ | exact Kd.N_nil _ _ _ _ _ | exact Kd.V_nil _ _ _ _ _ | exact Kd.Q_nil _ _ _ _ _ | exact Kd.S_nil _ _ _ _ _, by first | exact Kd.R_nil _ _ _ _ _ | exact Kd.N_nil _ _ _ _ _ | exact Kd.V_nil _ _ _ _ _ | exact Kd.Q_nil _ _ _ _ _ | exact Kd.S_nil _ _ _ _ _, by repeat (first | (with_reducible first | exact HB.out | apply below_alloc | apply pw_below_drewN | apply below_drew1) | exact HB.out)⟩
        · rw [if_neg c8] at H
          have c8b0 : decide (4096 < (wrap64 ((l0.length : Int) + (l1.length : Int)))) = false := decide_eq_false c8
          clear c8
          have H' := Aside0.mk H
          clear H
          go_wp2
          go_loopg [0, 1, 10, 11, 12] kj4 (fun kq v0 v1 v10 v11 v12 w' => ∃ (x0_2 : List (S48)) (x1_2 : List (S48)) (x10_2 : List (S48)) (x11_2 : List Int) (x12_2 : List Int), Aside0 (gazetteref14_Join.l0 kq x0_2 x1_2 x10_2 x11_2 x12_2 = some (r1, r2, r3, r4)) ∧ Aside0 (kq ≤ kj4) ∧ Aside0 (Kd.V k48 48 w' w.heap.size (fun k_ => ((P0_ k_ ∨ P1_ k_) ∨ w.heap.size ≤ k_) ∧ some k_ ≠ (v10 : Value).ownBlock ∧ some k_ ≠ (v11 : Value).ownBlock ∧ some k_ ≠ (v12 : Value).ownBlock) v0 x0_2) ∧ Aside0 (Kd.V k48 48 w' w.heap.size (fun k_ => ((P0_ k_ ∨ P1_ k_) ∨ w.heap.size ≤ k_) ∧ some k_ ≠ (v10 : Value).ownBlock ∧ some k_ ≠ (v11 : Value).ownBlock ∧ some k_ ≠ (v12 : Value).ownBlock) v1 x1_2) ∧ Aside0 (Kd.S k48 48 w' w.heap.size (fun k_ => (w.heap.size ≤ k_)) v10 x10_2) ∧ Aside0 (Kd.R (Kd.int .u64) 37 w' w.heap.size (fun k_ => (w.heap.size ≤ k_) ∧ some k_ ≠ (v12 : Value).ownBlock) v11 x11_2) ∧ Aside0 (Kd.R (Kd.int .u64) 37 w' w.heap.size (fun k_ => (w.heap.size ≤ k_) ∧ some k_ ≠ (v11 : Value).ownBlock) v12 x12_2) ∧ Aside0 (Below w.heap.size w w'))
          case atStart => exact ⟨(l0), (l1), (([] : List (S48))), (([] : List Int)), (([] : List Int)), H', ⟨Nat.le_refl _⟩, ⟨by (with_reducible repeat (first | apply Kd.V_alloc | apply Kd.V_drewN | apply Kd.V_drew)); exact Kd.V_mono HO_0.out (fun _ hk => ⟨hk, ⟨(by simp [Value.ownBlock]), ⟨(by simp [Value.ownBlock]), (by simp [Value.ownBlock])⟩⟩⟩)⟩, ⟨by (with_reducible repeat (first | apply Kd.V_alloc | apply Kd.V_drewN | apply Kd.V_drew)); exact Kd.V_mono HO_1.out (fun _ hk => ⟨hk, ⟨(by simp [Value.ownBlock]), ⟨(by simp [Value.ownBlock]), (by simp [Value.ownBlock])⟩⟩⟩)⟩, ⟨by first | exact Kd.S_nil _ _ _ _ _ | exact Kd.N_nil _ _ _ _ _ | exact Kd.V_nil _ _ _ _ _ | exact Kd.Q_nil _ _ _ _ _ | exact Kd.R_nil _ _ _ _ _⟩, ⟨by first | exact Kd.R_nil _ _ _ _ _ | exact Kd.N_nil _ _ _ _ _ | exact Kd.V_nil _ _ _ _ _ | exact Kd.Q_nil _ _ _ _ _ | exact Kd.S_nil _ _ _ _ _⟩, ⟨by first | exact Kd.R_nil _ _ _ _ _ | exact Kd.N_nil _ _ _ _ _ | exact Kd.V_nil _ _ _ _ _ | exact Kd.Q_nil _ _ _ _ _ | exact Kd.S_nil _ _ _ _ _⟩, ⟨by repeat (first | (with_reducible first | exact HB.out | apply below_alloc | apply pw_below_drewN | apply below_drew1) | exact HB.out)⟩⟩
          case round =>
            clear H'
            try clear c1
            try clear c2
            try clear p2
            try clear c6
            try clear p6
            try clear c7
            try clear c8
            try clear c8b0
            try clear p2
            obtain ⟨x0_2, x1_2, x10_2, x11_2, x12_2, HA, HK2, HO_0, HO_1, HO_10, HO_11, HO_12, HB⟩ := hrel
            cases gk with
            | zero => exact absurd HA.out (by simp [gazetteref14_Join.l0])
            | succ k2 =>
              have H := HA.out
              clear HA
              simp only [gazetteref14_Join.l0] at H
              by_cases c9 : (wrap64 ((x0_2.length : Int) + (x1_2.length : Int))) > 0
              · rw [if_pos c9] at H
                have c9b0 : decide (0 < (wrap64 ((x0_2.length : Int) + (x1_2.length : Int)))) = true := decide_eq_true c9
                clear c9
                have HC10 := Aside0.mk H
                clear H
                obtain ⟨Ao11, co11, eo11⟩ := Kd.V_slice HO_0.out
                subst eo11
                obtain ⟨Ao12, co12, eo12⟩ := Kd.V_slice HO_1.out
                subst eo12
                go_upto_if 42 with (fail)
                go_cut [13] (fun v13 wc => ∃ (kq : Nat) (x13_9 : Bool), v13 = .bool x13_9 ∧ Aside0 (gazetteref14_Join.j2 kq x0_2 x1_2 x10_2 x11_2 x12_2 x13_9 false = some (r1, r2, r3, r4)) ∧ Aside0 (kq ≤ k2) ∧ Aside0 (Kd.V k48 48 wc w.heap.size (fun k_ => ((P0_ k_ ∨ P1_ k_) ∨ w.heap.size ≤ k_) ∧ some k_ ≠ (u10 : Value).ownBlock ∧ some k_ ≠ (u11 : Value).ownBlock ∧ some k_ ≠ (u12 : Value).ownBlock) (.slice Ao11 x0_2.length co11) x0_2) ∧ Aside0 (Kd.V k48 48 wc w.heap.size (fun k_ => ((P0_ k_ ∨ P1_ k_) ∨ w.heap.size ≤ k_) ∧ some k_ ≠ (u10 : Value).ownBlock ∧ some k_ ≠ (u11 : Value).ownBlock ∧ some k_ ≠ (u12 : Value).ownBlock) (.slice Ao12 x1_2.length co12) x1_2) ∧ Aside0 (Kd.S k48 48 wc w.heap.size (fun k_ => (w.heap.size ≤ k_)) u10 x10_2) ∧ Aside0 (Kd.R (Kd.int .u64) 37 wc w.heap.size (fun k_ => (w.heap.size ≤ k_) ∧ some k_ ≠ (u12 : Value).ownBlock) u11 x11_2) ∧ Aside0 (Kd.R (Kd.int .u64) 37 wc w.heap.size (fun k_ => (w.heap.size ≤ k_) ∧ some k_ ≠ (u11 : Value).ownBlock) u12 x12_2) ∧ Aside0 (Below w.heap.size w wc))
                case first =>
                  have H := HC10.out
                  clear HC10
                  by_cases c13 : (x0_2.length : Int) > 0
                  · rw [if_pos c13] at H
                    have c13b0 : decide (0 < (x0_2.length : Int)) = true := decide_eq_true c13
                    have c13b1 : decide (0 < x0_2.length) = true := decide_eq_true (by omega)
                    clear c13
                    (first | rw [c13b0] | (simp only [i64_w, i32_w]; rw [c13b0]) | rw [c13b1] | skip)
                    by_cases c14 : 0 < (x0_2.length : Int)
                    · rw [if_pos c14] at H
                      have c14b0 : decide (0 < (x0_2.length : Int)) = true := decide_eq_true c14
                      have c14b1 : decide (0 < x0_2.length) = true := decide_eq_true (by omega)
                      clear c14
                      replace H := Option.bind_eq_some_iff.mp H
                      obtain ⟨t259, A150, H⟩ := H
                      replace H : (gazetteref14_Join.j2 k2 x0_2 x1_2 x10_2 x11_2 x12_2 (!t259) false) = some (r1, r2, r3, r4) := H
                      have A15 := Aside0.mk A150
                      clear A150
                      have H' := Aside0.mk H
                      clear H
                      have p258 : 0 ≤ (0 : Int) := (by omega)
                      have q258 : 0 < (x0_2.length : Int) := of_decide_eq_true (by first | (with_reducible assumption) | assumption)
                      obtain ⟨ad258, A258_2, c258_2, e258, hx258_0, hx258_1, hx258_2, hx258_3, hx258_4, hl258_2, hi258_2⟩ := at_T48 (Kd.V_reads' HO_0.out).2.2 0 p258 q258
                      cases e258
                      obtain ⟨ce258, hce258, hMe258, hcc258⟩ := Kd.V_get HO_0.out z48 0 p258 (by first | exact q258 | exact of_decide_eq_true (by first | (with_reducible assumption) | assumption) | (have e_ := (Kd.V_reads' HO_0.out).1; omega))
                      obtain ⟨ua258_2, uc258_2, rfl, ul258_2, ge258_2⟩ := k48_openF hMe258
                      have hv258_2 := hcc258 2 _ rfl
                      rw [add_field _ _ 2 (by omega)] at hv258_2
                      replace hv258_2 := Option.some.inj (hv258_2.symm.trans hx258_2)
                      injection hv258_2 with hva_ hvn_ hvc_
                      rw [hva_] at ge258_2
                      rw [hvc_] at ul258_2
                      have HL258_2 := Aside0.mk (show Kd.V (Kd.int .u8) 5 _ w.heap.size _ _ ((rd_T48 x0_2 0).f2) from Kd.V_mk ul258_2 ge258_2)
                      clear hva_ hvn_ hvc_ ge258_2 ul258_2
                      clear hcc258 hce258
                      have qi258 : (0 < x0_2.length) = True := eq_true (by omega)
                      (try rw [show ((0 : Int)).toNat = 0 from rfl] at hx258_0)
                      (try rw [show 0 * 5 = 0 from rfl] at hx258_0)
                      (try rw [Addr.add_zero'] at hx258_0)
                      (try rw [show ((0 : Int)).toNat = 0 from rfl] at hx258_1)
                      (try rw [show 0 * 5 = 0 from rfl] at hx258_1)
                      (try rw [Addr.add_zero'] at hx258_1)
                      (try rw [show ((0 : Int)).toNat = 0 from rfl] at hx258_2)
                      (try rw [show 0 * 5 = 0 from rfl] at hx258_2)
                      (try rw [Addr.add_zero'] at hx258_2)
                      (try rw [show ((0 : Int)).toNat = 0 from rfl] at hx258_3)
                      (try rw [show 0 * 5 = 0 from rfl] at hx258_3)
                      (try rw [Addr.add_zero'] at hx258_3)
                      (try rw [show ((0 : Int)).toNat = 0 from rfl] at hx258_4)
                      (try rw [show 0 * 5 = 0 from rfl] at hx258_4)
                      (try rw [Addr.add_zero'] at hx258_4)
                      have HR258_2 := Aside0.mk hi258_2
                      have HC258_2 := Aside0.mk hl258_2
                      clear hi258_2 hl258_2
                      replace p258 := eq_true p258
                      replace q258 := eq_true q258
                      go_wp2_with (first | ((with_reducible refine gate_callee (f := 30) rfl ?_); refine goesL_ (some 47) rfl rfl Tryd.func30 (by kernel_rfl) rfl #[.slice Ao12 x1_2.length co12, .agg #[.int .u64 ((rd_T48 x0_2 0).f0), .string ((rd_T48 x0_2 0).f1), .slice A258_2 ((rd_T48 x0_2 0).f2).length c258_2, .int .u64 ((rd_T48 x0_2 0).f3), .int .u64 ((rd_T48 x0_2 0).f4)]] rfl (by (try simp only [List.map_toArray, List.map_cons, List.map_nil]); first | done | rfl | (simp only [List.length_drop, List.length_take]; rfl)) ?_; (with_reducible refine (gazetteref14_lower.calls k2 _ _ x1_2 ((rd_T48 x0_2 0).f0) ((rd_T48 x0_2 0).f1) _ _ ((rd_T48 x0_2 0).f2) ((rd_T48 x0_2 0).f3) ((rd_T48 x0_2 0).f4) t259 _ ?side1 ?side2 ?side3 ?side4 A15.out).mono ?_); (case side1 => repeat (first | exact (Kd.V_reads' HO_1.out).2.2 | (with_reducible refine Kd.C_alloc ?_ _) | (with_reducible refine Kd.C_drewN ?_ _) | (with_reducible refine Kd.C_drew ?_))); (case side2 => exact (Kd.V_reads' HO_1.out).2.1); (case side3 => repeat (first | exact (by repeat (first | (with_reducible exact HR258_2.out) | (with_reducible refine Kd.C_alloc ?_ _) | (with_reducible refine Kd.C_drewN ?_ _) | (with_reducible refine Kd.C_drew ?_) | exact HR258_2.out)) | (with_reducible refine Kd.C_alloc ?_ _) | (with_reducible refine Kd.C_drewN ?_ _) | (with_reducible refine Kd.C_drew ?_))); (case side4 => exact HC258_2.out); rintro e w16 ⟨rfl, hb⟩; refine ⟨_, rfl, ?_⟩; have n0_ := Aside0.mk (Kd.V_below (by (with_reducible repeat (first | apply Kd.V_alloc | apply Kd.V_drewN | apply Kd.V_drew)); exact HO_0.out) hb); have n1_ := Aside0.mk (Kd.V_below (by (with_reducible repeat (first | apply Kd.V_alloc | apply Kd.V_drewN | apply Kd.V_drew)); exact HO_1.out) hb); have n2_ := Aside0.mk (Kd.S_below (by (with_reducible repeat (first | apply Kd.S_alloc | apply Kd.S_drewN | apply Kd.S_drew)); exact HO_10.out) hb); have n3_ := Aside0.mk (Kd.R_below (by (with_reducible repeat (first | apply Kd.R_alloc | apply Kd.R_drewN | apply Kd.R_drew)); exact HO_11.out) hb); have n4_ := Aside0.mk (Kd.R_below (by (with_reducible repeat (first | apply Kd.R_alloc | apply Kd.R_drewN | apply Kd.R_drew)); exact HO_12.out) hb); have n5_ := Aside0.mk (Kd.V_below (by (with_reducible repeat (first | apply Kd.V_alloc | apply Kd.V_drewN | apply Kd.V_drew)); exact HL258_2.out) hb); have n6_ := Aside0.mk (Kd.C_below (by repeat (first | (with_reducible exact HR258_2.out) | (with_reducible refine Kd.C_alloc ?_ _) | (with_reducible refine Kd.C_drewN ?_ _) | (with_reducible refine Kd.C_drew ?_) | exact HR258_2.out)) hb); have n7_ := Aside0.mk (below_step (by repeat (first | (with_reducible first | exact HB.out | apply below_alloc | apply pw_below_drewN | apply below_drew1) | exact HB.out)) hb); clear HO_0; clear HO_1; clear HO_10; clear HO_11; clear HO_12; clear HL258_2; clear HR258_2; clear HB; have HO_0 := n0_; have HO_1 := n1_; have HO_10 := n2_; have HO_11 := n3_; have HO_12 := n4_; have HL258_2 := n5_; have HR258_2 := n6_; have HB := n7_; clear n0_ n1_ n2_ n3_ n4_ n5_ n6_ n7_; (try clear hb); (try clear hb2); (try clear hk); (try clear hi)))
                      go_meet
                      case rel => exact ⟨_, (!t259), (by first | rfl | (simp; done) | (simp [*]; done)), H', ⟨by have := HJ4.out; have := HK2.out; first | omega | exact Nat.le_refl _⟩, ⟨by (with_reducible repeat (first | apply Kd.V_alloc | apply Kd.V_drewN | apply Kd.V_drew)); exact HO_0.out⟩, ⟨by (with_reducible repeat (first | apply Kd.V_alloc | apply Kd.V_drewN | apply Kd.V_drew)); exact HO_1.out⟩, ⟨by (with_reducible repeat (first | apply Kd.S_alloc | apply Kd.S_drewN | apply Kd.S_drew)); exact HO_10.out⟩, ⟨by (with_reducible repeat (first | apply Kd.R_alloc | apply Kd.R_drewN | apply Kd.R_drew)); exact HO_11.out⟩, ⟨by (with_reducible repeat (first | apply Kd.R_alloc | apply Kd.R_drewN | apply Kd.R_drew)); exact HO_12.out⟩, ⟨by repeat (first | (with_reducible first | exact HB.out | apply below_alloc | apply pw_below_drewN | apply below_drew1) | exact HB.out)⟩⟩
                    · rw [if_neg c14] at H
                      exact absurd H (by simp)
                  · rw [if_neg c13] at H
                    have c13b0 : decide (0 < (x0_2.length : Int)) = false := decide_eq_false c13
                    have c13b1 : decide (0 < x0_2.length) = false := decide_eq_false (by omega)
                    clear c13
                    (first | rw [c13b0] | (simp only [i64_w, i32_w]; rw [c13b0]) | rw [c13b1] | skip)
                    have H' := Aside0.mk H
                    clear H
                    go_wp2
                    go_meet
                    case rel => exact ⟨_, (false), (by first | rfl | (simp; done) | (simp [*]; done)), H', ⟨by have := HJ4.out; have := HK2.out; first | omega | exact Nat.le_refl _⟩, ⟨by (with_reducible repeat (first | apply Kd.V_alloc | apply Kd.V_drewN | apply Kd.V_drew)); exact HO_0.out⟩, ⟨by (with_reducible repeat (first | apply Kd.V_alloc | apply Kd.V_drewN | apply Kd.V_drew)); exact HO_1.out⟩, ⟨by (with_reducible repeat (first | apply Kd.S_alloc | apply Kd.S_drewN | apply Kd.S_drew)); exact HO_10.out⟩, ⟨by (with_reducible repeat (first | apply Kd.R_alloc | apply Kd.R_drewN | apply Kd.R_drew)); exact HO_11.out⟩, ⟨by (with_reducible repeat (first | apply Kd.R_alloc | apply Kd.R_drewN | apply Kd.R_drew)); exact HO_12.out⟩, ⟨by repeat (first | (with_reducible first | exact HB.out | apply below_alloc | apply pw_below_drewN | apply below_drew1) | exact HB.out)⟩⟩
                case rest =>
                  clear HC10
                  try clear c1
                  try clear c2
                  try clear p2
                  try clear q2
                  try clear hx2
                  try clear qi2
                  try clear c3
                  try clear c6
                  try clear p6
                  try clear c7
                  try clear c8
                  try clear c8b0
                  try clear c9
                  try clear c9b0
                  try clear c13
                  try clear c13b0
                  try clear c13b1
                  try clear c14
                  try clear c14b0
                  try clear c14b1
                  try clear hx258_0
                  try clear hx258_1
                  try clear hx258_2
                  try clear hx258_3
                  try clear hx258_4
                  try clear p2
                  try clear p258
                  try clear p6
                  try clear q258
                  obtain ⟨kq, x13_9, rfl, HA, HJ9, HO_0, HO_1, HO_10, HO_11, HO_12, HB⟩ := hcut
                  cases kq with
                  | zero => exact absurd HA.out (by simp [gazetteref14_Join.j2])
                  | succ kj9 =>
                    have H := HA.out
                    clear HA
                    simp only [gazetteref14_Join.j2] at H
                    have HC17 := Aside0.mk H
                    clear H
                    go_upto_region 16 with (fail)
                    go_cut [56] (fun v56 wc => ∃ (kq : Nat) (x56_16 : Bool), v56 = .bool x56_16 ∧ Aside0 (gazetteref14_Join.j3 kq x0_2 x1_2 x10_2 x11_2 x12_2 x13_9 false x56_16 = some (r1, r2, r3, r4)) ∧ Aside0 (kq ≤ kj9) ∧ Aside0 (Kd.V k48 48 wc w.heap.size (fun k_ => ((P0_ k_ ∨ P1_ k_) ∨ w.heap.size ≤ k_) ∧ some k_ ≠ (u10 : Value).ownBlock ∧ some k_ ≠ (u11 : Value).ownBlock ∧ some k_ ≠ (u12 : Value).ownBlock) (.slice Ao11 x0_2.length co11) x0_2) ∧ Aside0 (Kd.V k48 48 wc w.heap.size (fun k_ => ((P0_ k_ ∨ P1_ k_) ∨ w.heap.size ≤ k_) ∧ some k_ ≠ (u10 : Value).ownBlock ∧ some k_ ≠ (u11 : Value).ownBlock ∧ some k_ ≠ (u12 : Value).ownBlock) (.slice Ao12 x1_2.length co12) x1_2) ∧ Aside0 (Kd.S k48 48 wc w.heap.size (fun k_ => (w.heap.size ≤ k_)) u10 x10_2) ∧ Aside0 (Kd.R (Kd.int .u64) 37 wc w.heap.size (fun k_ => (w.heap.size ≤ k_) ∧ some k_ ≠ (u12 : Value).ownBlock) u11 x11_2) ∧ Aside0 (Kd.R (Kd.int .u64) 37 wc w.heap.size (fun k_ => (w.heap.size ≤ k_) ∧ some k_ ≠ (u11 : Value).ownBlock) u12 x12_2) ∧ Aside0 (Below w.heap.size w wc))
                    case first =>
                      have H := HC17.out
                      clear HC17
                      by_cases c18 : x13_9 = true
                      · subst c18
                        have H1 : (gazetteref14_Join.j3 kj9 x0_2 x1_2 x10_2 x11_2 x12_2 true false false) = some (r1, r2, r3, r4) := by rw [if_pos rfl] at H; exact H
                        clear H
                        have H := H1
                        clear H1
                        have H' := Aside0.mk H
                        clear H
                        go_wp2
                        go_meet
                        case rel => exact ⟨_, (false), (by first | rfl | (simp; done) | (simp [*]; done)), H', ⟨by have := HJ4.out; have := HK2.out; have := HJ9.out; first | omega | exact Nat.le_refl _⟩, ⟨by (with_reducible repeat (first | apply Kd.V_alloc | apply Kd.V_drewN | apply Kd.V_drew)); exact HO_0.out⟩, ⟨by (with_reducible repeat (first | apply Kd.V_alloc | apply Kd.V_drewN | apply Kd.V_drew)); exact HO_1.out⟩, ⟨by (with_reducible repeat (first | apply Kd.S_alloc | apply Kd.S_drewN | apply Kd.S_drew)); exact HO_10.out⟩, ⟨by (with_reducible repeat (first | apply Kd.R_alloc | apply Kd.R_drewN | apply Kd.R_drew)); exact HO_11.out⟩, ⟨by (with_reducible repeat (first | apply Kd.R_alloc | apply Kd.R_drewN | apply Kd.R_drew)); exact HO_12.out⟩, ⟨by repeat (first | (with_reducible first | exact HB.out | apply below_alloc | apply pw_below_drewN | apply below_drew1) | exact HB.out)⟩⟩
                      · replace c18 := Bool.eq_false_iff.mpr c18
                        subst c18
                        have H1 : (gazetteref14_Join.j3 kj9 x0_2 x1_2 x10_2 x11_2 x12_2 false false (decide ((x1_2.length : Int) > 0))) = some (r1, r2, r3, r4) := by rw [if_neg (show ¬ (false = true) by decide)] at H; exact H
                        clear H
                        have H := H1
                        clear H1
                        have H' := Aside0.mk H
                        clear H
                        go_wp2
                        go_meet
                        case rel => exact ⟨_, (decide ((x1_2.length : Int) > 0)), (by first | rfl | (simp; done) | (simp [*]; done)), H', ⟨by have := HJ4.out; have := HK2.out; have := HJ9.out; first | omega | exact Nat.le_refl _⟩, ⟨by (with_reducible repeat (first | apply Kd.V_alloc | apply Kd.V_drewN | apply Kd.V_drew)); exact HO_0.out⟩, ⟨by (with_reducible repeat (first | apply Kd.V_alloc | apply Kd.V_drewN | apply Kd.V_drew)); exact HO_1.out⟩, ⟨by (with_reducible repeat (first | apply Kd.S_alloc | apply Kd.S_drewN | apply Kd.S_drew)); exact HO_10.out⟩, ⟨by (with_reducible repeat (first | apply Kd.R_alloc | apply Kd.R_drewN | apply Kd.R_drew)); exact HO_11.out⟩, ⟨by (with_reducible repeat (first | apply Kd.R_alloc | apply Kd.R_drewN | apply Kd.R_drew)); exact HO_12.out⟩, ⟨by repeat (first | (with_reducible first | exact HB.out | apply below_alloc | apply pw_below_drewN | apply below_drew1) | exact HB.out)⟩⟩
                    case rest =>
                      clear HC17
                      try clear c1
                      try clear c2
                      try clear p2
                      try clear q2
                      try clear hx2
                      try clear qi2
                      try clear c3
                      try clear c6
                      try clear p6
                      try clear c7
                      try clear c8
                      try clear c8b0
                      try clear c9
                      try clear c9b0
                      try clear c13
                      try clear c13b0
                      try clear c13b1
                      try clear c14
                      try clear c14b0
                      try clear c14b1
                      try clear c18
                      try clear hx258_0
                      try clear hx258_1
                      try clear hx258_2
                      try clear hx258_3
                      try clear hx258_4
                      try clear p2
                      try clear p258
                      try clear p6
                      try clear q2
                      try clear q258
                      obtain ⟨kq, x56_16, rfl, HA, HJ16, HO_0, HO_1, HO_10, HO_11, HO_12, HB⟩ := hcut
                      cases kq with
                      | zero => exact absurd HA.out (by simp [gazetteref14_Join.j3])
                      | succ kj16 =>
                        have H := HA.out
                        clear HA
                        simp only [gazetteref14_Join.j3] at H
                        have HC19 := Aside0.mk H
                        clear H
                        go_upto_if 56 with (fail)
                        go_cut [14] (fun v14 wc => ∃ (kq : Nat) (x14_18 : Bool), v14 = .bool x14_18 ∧ Aside0 (gazetteref14_Join.j4 kq x0_2 x1_2 x10_2 x11_2 x12_2 x13_9 x14_18 = some (r1, r2, r3, r4)) ∧ Aside0 (kq ≤ kj16) ∧ Aside0 (Kd.V k48 48 wc w.heap.size (fun k_ => ((P0_ k_ ∨ P1_ k_) ∨ w.heap.size ≤ k_) ∧ some k_ ≠ (u10 : Value).ownBlock ∧ some k_ ≠ (u11 : Value).ownBlock ∧ some k_ ≠ (u12 : Value).ownBlock) (.slice Ao11 x0_2.length co11) x0_2) ∧ Aside0 (Kd.V k48 48 wc w.heap.size (fun k_ => ((P0_ k_ ∨ P1_ k_) ∨ w.heap.size ≤ k_) ∧ some k_ ≠ (u10 : Value).ownBlock ∧ some k_ ≠ (u11 : Value).ownBlock ∧ some k_ ≠ (u12 : Value).ownBlock) (.slice Ao12 x1_2.length co12) x1_2) ∧ Aside0 (Kd.S k48 48 wc w.heap.size (fun k_ => (w.heap.size ≤ k_)) u10 x10_2) ∧ Aside0 (Kd.R (Kd.int .u64) 37 wc w.heap.size (fun k_ => (w.heap.size ≤ k_) ∧ some k_ ≠ (u12 : Value).ownBlock) u11 x11_2) ∧ Aside0 (Kd.R (Kd.int .u64) 37 wc w.heap.size (fun k_ => (w.heap.size ≤ k_) ∧ some k_ ≠ (u11 : Value).ownBlock) u12 x12_2) ∧ Aside0 (Below w.heap.size w wc))
                        case first =>
                          have H := HC19.out
                          clear HC19
                          by_cases c20 : x56_16 = true
                          · subst c20
                            have H1 : (if 0 < (x1_2.length : Int) then ((gazetteref14_lower.f kj16 x0_2 ((rd_T48 x1_2 0).f0) ((rd_T48 x1_2 0).f1) ((rd_T48 x1_2 0).f2) ((rd_T48 x1_2 0).f3) ((rd_T48 x1_2 0).f4)).bind fun t261 => (gazetteref14_Join.j4 kj16 x0_2 x1_2 x10_2 x11_2 x12_2 x13_9 (!t261))) else (none)) = some (r1, r2, r3, r4) := by rw [if_pos rfl] at H; exact H
                            clear H
                            have H := H1
                            clear H1
                            by_cases c21 : 0 < (x1_2.length : Int)
                            · rw [if_pos c21] at H
                              have c21b0 : decide (0 < (x1_2.length : Int)) = true := decide_eq_true c21
                              have c21b1 : decide (0 < x1_2.length) = true := decide_eq_true (by omega)
                              clear c21
                              (first | rw [c21b0] | (simp only [i64_w, i32_w]; rw [c21b0]) | rw [c21b1] | skip)
                              replace H := Option.bind_eq_some_iff.mp H
                              obtain ⟨t261, A220, H⟩ := H
                              replace H : (gazetteref14_Join.j4 kj16 x0_2 x1_2 x10_2 x11_2 x12_2 x13_9 (!t261)) = some (r1, r2, r3, r4) := H
                              have A22 := Aside0.mk A220
                              clear A220
                              have H' := Aside0.mk H
                              clear H
                              have p260 : 0 ≤ (0 : Int) := (by omega)
                              have q260 : 0 < (x1_2.length : Int) := of_decide_eq_true (by first | (with_reducible assumption) | assumption)
                              obtain ⟨ad260, A260_2, c260_2, e260, hx260_0, hx260_1, hx260_2, hx260_3, hx260_4, hl260_2, hi260_2⟩ := at_T48 (Kd.V_reads' HO_1.out).2.2 0 p260 q260
                              cases e260
                              obtain ⟨ce260, hce260, hMe260, hcc260⟩ := Kd.V_get HO_1.out z48 0 p260 (by first | exact q260 | exact of_decide_eq_true (by first | (with_reducible assumption) | assumption) | (have e_ := (Kd.V_reads' HO_1.out).1; omega))
                              obtain ⟨ua260_2, uc260_2, rfl, ul260_2, ge260_2⟩ := k48_openF hMe260
                              have hv260_2 := hcc260 2 _ rfl
                              rw [add_field _ _ 2 (by omega)] at hv260_2
                              replace hv260_2 := Option.some.inj (hv260_2.symm.trans hx260_2)
                              injection hv260_2 with hva_ hvn_ hvc_
                              rw [hva_] at ge260_2
                              rw [hvc_] at ul260_2
                              have HL260_2 := Aside0.mk (show Kd.V (Kd.int .u8) 5 _ w.heap.size _ _ ((rd_T48 x1_2 0).f2) from Kd.V_mk ul260_2 ge260_2)
                              clear hva_ hvn_ hvc_ ge260_2 ul260_2
                              clear hcc260 hce260
                              have qi260 : (0 < x1_2.length) = True := eq_true (by omega)
                              (try rw [show ((0 : Int)).toNat = 0 from rfl] at hx260_0)
                              (try rw [show 0 * 5 = 0 from rfl] at hx260_0)
                              (try rw [Addr.add_zero'] at hx260_0)
                              (try rw [show ((0 : Int)).toNat = 0 from rfl] at hx260_1)
                              (try rw [show 0 * 5 = 0 from rfl] at hx260_1)
                              (try rw [Addr.add_zero'] at hx260_1)
                              (try rw [show ((0 : Int)).toNat = 0 from rfl] at hx260_2)
                              (try rw [show 0 * 5 = 0 from rfl] at hx260_2)
                              (try rw [Addr.add_zero'] at hx260_2)
                              (try rw [show ((0 : Int)).toNat = 0 from rfl] at hx260_3)
                              (try rw [show 0 * 5 = 0 from rfl] at hx260_3)
                              (try rw [Addr.add_zero'] at hx260_3)
                              (try rw [show ((0 : Int)).toNat = 0 from rfl] at hx260_4)
                              (try rw [show 0 * 5 = 0 from rfl] at hx260_4)
                              (try rw [Addr.add_zero'] at hx260_4)
                              have HR260_2 := Aside0.mk hi260_2
                              have HC260_2 := Aside0.mk hl260_2
                              clear hi260_2 hl260_2
                              replace p260 := eq_true p260
                              replace q260 := eq_true q260
                              go_wp2_with (first | ((with_reducible refine gate_callee (f := 30) rfl ?_); refine goesL_ (some 61) rfl rfl Tryd.func30 (by kernel_rfl) rfl #[.slice Ao11 x0_2.length co11, .agg #[.int .u64 ((rd_T48 x1_2 0).f0), .string ((rd_T48 x1_2 0).f1), .slice A260_2 ((rd_T48 x1_2 0).f2).length c260_2, .int .u64 ((rd_T48 x1_2 0).f3), .int .u64 ((rd_T48 x1_2 0).f4)]] rfl (by (try simp only [List.map_toArray, List.map_cons, List.map_nil]); first | done | rfl | (simp only [List.length_drop, List.length_take]; rfl)) ?_; (with_reducible refine (gazetteref14_lower.calls kj16 _ _ x0_2 ((rd_T48 x1_2 0).f0) ((rd_T48 x1_2 0).f1) _ _ ((rd_T48 x1_2 0).f2) ((rd_T48 x1_2 0).f3) ((rd_T48 x1_2 0).f4) t261 _ ?side1 ?side2 ?side3 ?side4 A22.out).mono ?_); (case side1 => repeat (first | exact (Kd.V_reads' HO_0.out).2.2 | (with_reducible refine Kd.C_alloc ?_ _) | (with_reducible refine Kd.C_drewN ?_ _) | (with_reducible refine Kd.C_drew ?_))); (case side2 => exact (Kd.V_reads' HO_0.out).2.1); (case side3 => repeat (first | exact (by repeat (first | (with_reducible exact HR260_2.out) | (with_reducible refine Kd.C_alloc ?_ _) | (with_reducible refine Kd.C_drewN ?_ _) | (with_reducible refine Kd.C_drew ?_) | exact HR260_2.out)) | (with_reducible refine Kd.C_alloc ?_ _) | (with_reducible refine Kd.C_drewN ?_ _) | (with_reducible refine Kd.C_drew ?_))); (case side4 => exact HC260_2.out); rintro e w23 ⟨rfl, hb⟩; refine ⟨_, rfl, ?_⟩; have n0_ := Aside0.mk (Kd.V_below (by (with_reducible repeat (first | apply Kd.V_alloc | apply Kd.V_drewN | apply Kd.V_drew)); exact HO_0.out) hb); have n1_ := Aside0.mk (Kd.V_below (by (with_reducible repeat (first | apply Kd.V_alloc | apply Kd.V_drewN | apply Kd.V_drew)); exact HO_1.out) hb); have n2_ := Aside0.mk (Kd.S_below (by (with_reducible repeat (first | apply Kd.S_alloc | apply Kd.S_drewN | apply Kd.S_drew)); exact HO_10.out) hb); have n3_ := Aside0.mk (Kd.R_below (by (with_reducible repeat (first | apply Kd.R_alloc | apply Kd.R_drewN | apply Kd.R_drew)); exact HO_11.out) hb); have n4_ := Aside0.mk (Kd.R_below (by (with_reducible repeat (first | apply Kd.R_alloc | apply Kd.R_drewN | apply Kd.R_drew)); exact HO_12.out) hb); have n5_ := Aside0.mk (Kd.V_below (by (with_reducible repeat (first | apply Kd.V_alloc | apply Kd.V_drewN | apply Kd.V_drew)); exact HL260_2.out) hb); have n6_ := Aside0.mk (Kd.C_below (by repeat (first | (with_reducible exact HR260_2.out) | (with_reducible refine Kd.C_alloc ?_ _) | (with_reducible refine Kd.C_drewN ?_ _) | (with_reducible refine Kd.C_drew ?_) | exact HR260_2.out)) hb); have n7_ := Aside0.mk (below_step (by repeat (first | (with_reducible first | exact HB.out | apply below_alloc | apply pw_below_drewN | apply below_drew1) | exact HB.out)) hb); clear HO_0; clear HO_1; clear HO_10; clear HO_11; clear HO_12; clear HL260_2; clear HR260_2; clear HB; have HO_0 := n0_; have HO_1 := n1_; have HO_10 := n2_; have HO_11 := n3_; have HO_12 := n4_; have HL260_2 := n5_; have HR260_2 := n6_; have HB := n7_; clear n0_ n1_ n2_ n3_ n4_ n5_ n6_ n7_; (try clear hb); (try clear hb2); (try clear hk); (try clear hi)))
                              go_meet
                              case rel => exact ⟨_, (!t261), (by first | rfl | (simp; done) | (simp [*]; done)), H', ⟨by have := HJ4.out; have := HK2.out; have := HJ9.out; have := HJ16.out; first | omega | exact Nat.le_refl _⟩, ⟨by (with_reducible repeat (first | apply Kd.V_alloc | apply Kd.V_drewN | apply Kd.V_drew)); exact HO_0.out⟩, ⟨by (with_reducible repeat (first | apply Kd.V_alloc | apply Kd.V_drewN | apply Kd.V_drew)); exact HO_1.out⟩, ⟨by (with_reducible repeat (first | apply Kd.S_alloc | apply Kd.S_drewN | apply Kd.S_drew)); exact HO_10.out⟩, ⟨by (with_reducible repeat (first | apply Kd.R_alloc | apply Kd.R_drewN | apply Kd.R_drew)); exact HO_11.out⟩, ⟨by (with_reducible repeat (first | apply Kd.R_alloc | apply Kd.R_drewN | apply Kd.R_drew)); exact HO_12.out⟩, ⟨by repeat (first | (with_reducible first | exact HB.out | apply below_alloc | apply pw_below_drewN | apply below_drew1) | exact HB.out)⟩⟩
                            · rw [if_neg c21] at H
                              exact absurd H (by simp)
                          · replace c20 := Bool.eq_false_iff.mpr c20
                            subst c20
                            have H1 : (gazetteref14_Join.j4 kj16 x0_2 x1_2 x10_2 x11_2 x12_2 x13_9 false) = some (r1, r2, r3, r4) := by rw [if_neg (show ¬ (false = true) by decide)] at H; exact H
                            clear H
                            have H := H1
                            clear H1
                            have H' := Aside0.mk H
                            clear H
                            go_wp2
                            go_meet
                            case rel => exact ⟨_, (false), (by first | rfl | (simp; done) | (simp [*]; done)), H', ⟨by have := HJ4.out; have := HK2.out; have := HJ9.out; have := HJ16.out; first | omega | exact Nat.le_refl _⟩, ⟨by (with_reducible repeat (first | apply Kd.V_alloc | apply Kd.V_drewN | apply Kd.V_drew)); exact HO_0.out⟩, ⟨by (with_reducible repeat (first | apply Kd.V_alloc | apply Kd.V_drewN | apply Kd.V_drew)); exact HO_1.out⟩, ⟨by (with_reducible repeat (first | apply Kd.S_alloc | apply Kd.S_drewN | apply Kd.S_drew)); exact HO_10.out⟩, ⟨by (with_reducible repeat (first | apply Kd.R_alloc | apply Kd.R_drewN | apply Kd.R_drew)); exact HO_11.out⟩, ⟨by (with_reducible repeat (first | apply Kd.R_alloc | apply Kd.R_drewN | apply Kd.R_drew)); exact HO_12.out⟩, ⟨by repeat (first | (with_reducible first | exact HB.out | apply below_alloc | apply pw_below_drewN | apply below_drew1) | exact HB.out)⟩⟩
                        case rest =>
                          clear HC19
                          try clear c1
                          try clear c2
                          try clear p2
                          try clear q2
                          try clear hx2
                          try clear qi2
                          try clear c3
                          try clear c6
                          try clear p6
                          try clear c7
                          try clear c8
                          try clear c8b0
                          try clear c9
                          try clear c9b0
                          try clear c13
                          try clear c13b0
                          try clear c13b1
                          try clear c14
                          try clear c14b0
                          try clear c14b1
                          try clear c18
                          try clear c20
                          try clear c21
                          try clear c21b0
                          try clear c21b1
                          try clear hx258_0
                          try clear hx258_1
                          try clear hx258_2
                          try clear hx258_3
                          try clear hx258_4
                          try clear hx260_0
                          try clear hx260_1
                          try clear hx260_2
                          try clear hx260_3
                          try clear hx260_4
                          try clear p2
                          try clear p258
                          try clear p260
                          try clear p6
                          try clear q2
                          try clear q258
                          try clear q260
                          obtain ⟨kq, x14_18, rfl, HA, HJ18, HO_0, HO_1, HO_10, HO_11, HO_12, HB⟩ := hcut
                          cases kq with
                          | zero => exact absurd HA.out (by simp [gazetteref14_Join.j4])
                          | succ kj18 =>
                            have H := HA.out
                            clear HA
                            simp only [gazetteref14_Join.j4] at H
                            by_cases c24 : x13_9 = true
                            · subst c24
                              have H1 : (if x11_2.length < 17592186044416 then (if 0 < (x0_2.length : Int) then ((gazetteref14_at.f ((rd_T48 x0_2 0).f0) ((rd_T48 x0_2 0).f1) ((rd_T48 x0_2 0).f2) ((rd_T48 x0_2 0).f3) ((rd_T48 x0_2 0).f4) (x10_2.length : Int)).bind fun bt266 => (if x10_2.length < 2199023255552 then (if 1 ≤ (x0_2.length : Int) then (gazetteref14_Join.l0 kj18 (x0_2.drop 1) x1_2 (x10_2 ++ [(⟨bt266.1, bt266.2.1, bt266.2.2.1, bt266.2.2.2.1, bt266.2.2.2.2⟩ : S48)]) (x11_2 ++ [IntKind.u64.wrap ((x10_2.length : Int))]) x12_2) else (none)) else (none))) else (none)) else (none)) = some (r1, r2, r3, r4) := by rw [if_pos rfl] at H; exact H
                              clear H
                              have H := H1
                              clear H1
                              by_cases c25 : x11_2.length < 17592186044416
                              · rw [if_pos c25] at H
                                have LMc25 := Aside0.mk c25
                                clear c25
                                obtain ⟨y262, hy262⟩ : ∃ y_ : List Int, y_ = (x11_2 ++ [IntKind.u64.wrap ((x10_2.length : Int))]) := ⟨_, rfl⟩
                                replace H : (if 0 < (x0_2.length : Int) then ((gazetteref14_at.f ((rd_T48 x0_2 0).f0) ((rd_T48 x0_2 0).f1) ((rd_T48 x0_2 0).f2) ((rd_T48 x0_2 0).f3) ((rd_T48 x0_2 0).f4) (x10_2.length : Int)).bind fun bt266 => (if x10_2.length < 2199023255552 then (if 1 ≤ (x0_2.length : Int) then (gazetteref14_Join.l0 kj18 (x0_2.drop 1) x1_2 (x10_2 ++ [(⟨bt266.1, bt266.2.1, bt266.2.2.1, bt266.2.2.2.1, bt266.2.2.2.2⟩ : S48)]) y262 x12_2) else (none)) else (none))) else (none)) = some (r1, r2, r3, r4) := by first | (rw [hy262]; with_reducible exact H) | (have H2_ := (Option.bind_some _ _).symm.trans H; rw [hy262]; with_reducible exact H2_) | (have H2_ := (Option.bind_some _ _).symm.trans H; with_reducible exact H2_) | with_reducible exact H | (rw [hy262]; exact H) | exact H
                                have Ny262 := Aside0.mk hy262
                                clear hy262
                                by_cases c26 : 0 < (x0_2.length : Int)
                                · rw [if_pos c26] at H
                                  have c26b0 : decide (0 < (x0_2.length : Int)) = true := decide_eq_true c26
                                  have c26b1 : decide (0 < x0_2.length) = true := decide_eq_true (by omega)
                                  clear c26
                                  replace H := Option.bind_eq_some_iff.mp H
                                  obtain ⟨⟨t266, t267, t268, t271, t272⟩, A270, H⟩ := H
                                  replace H : (if x10_2.length < 2199023255552 then (if 1 ≤ (x0_2.length : Int) then (gazetteref14_Join.l0 kj18 (x0_2.drop 1) x1_2 (x10_2 ++ [(⟨t266, t267, t268, t271, t272⟩ : S48)]) y262 x12_2) else (none)) else (none)) = some (r1, r2, r3, r4) := H
                                  have A27 := Aside0.mk A270
                                  clear A270
                                  by_cases c28 : x10_2.length < 2199023255552
                                  · rw [if_pos c28] at H
                                    have LMc28 := Aside0.mk c28
                                    clear c28
                                    obtain ⟨y273, hy273⟩ : ∃ y_ : List (S48), y_ = (x10_2 ++ [(⟨t266, t267, t268, t271, t272⟩ : S48)]) := ⟨_, rfl⟩
                                    replace H : (if 1 ≤ (x0_2.length : Int) then (gazetteref14_Join.l0 kj18 (x0_2.drop 1) x1_2 y273 y262 x12_2) else (none)) = some (r1, r2, r3, r4) := by first | (rw [hy273]; with_reducible exact H) | (have H2_ := (Option.bind_some _ _).symm.trans H; rw [hy273]; with_reducible exact H2_) | (have H2_ := (Option.bind_some _ _).symm.trans H; with_reducible exact H2_) | with_reducible exact H | (rw [hy273]; exact H) | exact H
                                    have Ny273 := Aside0.mk hy273
                                    clear hy273
                                    by_cases c29 : 1 ≤ (x0_2.length : Int)
                                    · rw [if_pos c29] at H
                                      have c29b0 := eq_true c29
                                      have c29b1 : decide (1 ≤ (x0_2.length : Int)) = true := decide_eq_true c29
                                      clear c29
                                      obtain ⟨y276, hy276⟩ : ∃ y_ : List (S48), y_ = (x0_2.drop 1) := ⟨_, rfl⟩
                                      replace H : (gazetteref14_Join.l0 kj18 y276 x1_2 y273 y262 x12_2) = some (r1, r2, r3, r4) := by first | (rw [hy276]; with_reducible exact H) | (have H2_ := (Option.bind_some _ _).symm.trans H; rw [hy276]; with_reducible exact H2_) | (have H2_ := (Option.bind_some _ _).symm.trans H; with_reducible exact H2_) | with_reducible exact H | (rw [hy276]; exact H) | exact H
                                      have Ny276 := Aside0.mk hy276
                                      clear hy276
                                      have H' := Aside0.mk H
                                      clear H
                                      obtain ⟨Ao30, co30, eo30⟩ := Kd.S_slice HO_10.out
                                      subst eo30
                                      go_wp2_with (first | ((with_reducible refine gate_builtin (b := .append) (xs := #[.tmp 66, .tmp 70]) rfl ?_); (try (refine gate_guard (by rfl) ?_; dsimp only)); at_builtin; refine Kd.R_append (Kd.int .u64) (w0 := w) w.heap.size rfl (.tmp 66) (.tmp 70) 27 37 (.int .u64 0) 8 rfl Tryd.underlying27 info37 rfl (by decide) (by omega) u11 x11_2 (IntKind.u64.wrap ((x10_2.length : Int))) [.int .u64 (IntKind.u64.wrap ((x10_2.length : Int)))] (fun k_ => (w.heap.size ≤ k_) ∧ some k_ ≠ (u12 : Value).ownBlock) (fun _ => False) rfl rfl ?aP (fun _ hk => hk.elim) ?aF ?aO ?aB ?aS ?aL ?_; (case aP => exact rfl); (case aB => exact (by repeat (first | (with_reducible first | exact HB.out | apply below_alloc | apply pw_below_drewN | apply below_drew1) | exact HB.out))); (case aF => exact (fun k_ hk => ⟨(Nat.le_trans (below_size (by repeat (first | (with_reducible first | exact HB.out | apply below_alloc | apply pw_below_drewN | apply below_drew1) | exact HB.out))) hk), Kd.fresh' (Kd.R_lt (by (with_reducible repeat (first | apply Kd.R_alloc | apply Kd.R_drewN | apply Kd.R_drew)); exact HO_12.out)) k_ hk⟩)); (case aO => exact (by (with_reducible repeat (first | apply Kd.R_alloc | apply Kd.R_drewN | apply Kd.R_drew)); exact HO_11.out)); (case aS => exact (below_size (by repeat (first | (with_reducible first | exact HB.out | apply below_alloc | apply pw_below_drewN | apply below_drew1) | exact HB.out)))); (case aL => have := LMc25.out; omega); intro v263 w31 ho hb hg hat; rw [← Ny262.out] at ho; have n0_ := Aside0.mk (Kd.V_afterv (ok := (fun k_ => ((P0_ k_ ∨ P1_ k_) ∨ w.heap.size ≤ k_) ∧ some k_ ≠ (.slice Ao30 x10_2.length co30 : Value).ownBlock ∧ some k_ ≠ (u12 : Value).ownBlock)) (by (with_reducible repeat (first | apply Kd.V_alloc | apply Kd.V_drewN | apply Kd.V_drew)); exact Kd.V_mono HO_0.out (fun _ hk => ⟨⟨hk.1, ⟨hk.2.1, hk.2.2.2⟩⟩, hk.2.2.1⟩)) hg hat); have n1_ := Aside0.mk (Kd.V_afterv (ok := (fun k_ => ((P0_ k_ ∨ P1_ k_) ∨ w.heap.size ≤ k_) ∧ some k_ ≠ (.slice Ao30 x10_2.length co30 : Value).ownBlock ∧ some k_ ≠ (u12 : Value).ownBlock)) (by (with_reducible repeat (first | apply Kd.V_alloc | apply Kd.V_drewN | apply Kd.V_drew)); exact Kd.V_mono HO_1.out (fun _ hk => ⟨⟨hk.1, ⟨hk.2.1, hk.2.2.2⟩⟩, hk.2.2.1⟩)) hg hat); have n2_ := Aside0.mk (Kd.S_over' (by (with_reducible repeat (first | apply Kd.S_alloc | apply Kd.S_drewN | apply Kd.S_drew)); exact HO_10.out) (Kd.R_typed (by (with_reducible repeat (first | apply Kd.R_alloc | apply Kd.R_drewN | apply Kd.R_drew)); exact HO_11.out)) (by decide) hg); have n3_ := Aside0.mk (Kd.R_after (ok := (fun k_ => (w.heap.size ≤ k_))) (by (with_reducible repeat (first | apply Kd.R_alloc | apply Kd.R_drewN | apply Kd.R_drew)); exact HO_12.out) hg hat); have n4_ := Aside0.mk (hb); have n5_ := Aside0.mk (ho); clear HO_0; clear HO_1; clear HO_10; clear HO_12; clear HB; clear HO_11; have HO_0 := n0_; have HO_1 := n1_; have HO_10 := n2_; have HO_12 := n3_; have HB := n4_; have HO264 := n5_; clear n0_ n1_ n2_ n3_ n4_ n5_; clear ho hb hg hat; have p265 : 0 ≤ (0 : Int) := (by omega); have q265 : 0 < (x0_2.length : Int) := of_decide_eq_true (by first | (with_reducible assumption) | assumption); obtain ⟨ad265, A265_2, c265_2, e265, hx265_0, hx265_1, hx265_2, hx265_3, hx265_4, hl265_2, hi265_2⟩ := at_T48 (Kd.V_reads' HO_0.out).2.2 0 p265 q265; cases e265; obtain ⟨ce265, hce265, hMe265, hcc265⟩ := Kd.V_get HO_0.out z48 0 p265 (by first | exact q265 | exact of_decide_eq_true (by first | (with_reducible assumption) | assumption) | (have e_ := (Kd.V_reads' HO_0.out).1; omega)); obtain ⟨ua265_2, uc265_2, rfl, ul265_2, ge265_2⟩ := k48_openF hMe265; have hv265_2 := hcc265 2 _ rfl; rw [add_field _ _ 2 (by omega)] at hv265_2; replace hv265_2 := Option.some.inj (hv265_2.symm.trans hx265_2); injection hv265_2 with hva_ hvn_ hvc_; rw [hva_] at ge265_2; rw [hvc_] at ul265_2; have HL265_2 := Aside0.mk (show Kd.V (Kd.int .u8) 5 _ w.heap.size _ _ ((rd_T48 x0_2 0).f2) from Kd.V_mk ul265_2 ge265_2); clear hva_ hvn_ hvc_ ge265_2 ul265_2; clear hcc265 hce265; have qi265 : (0 < x0_2.length) = True := eq_true (by omega); (try rw [show ((0 : Int)).toNat = 0 from rfl] at hx265_0); (try rw [show 0 * 5 = 0 from rfl] at hx265_0); (try rw [Addr.add_zero'] at hx265_0); (try rw [show ((0 : Int)).toNat = 0 from rfl] at hx265_1); (try rw [show 0 * 5 = 0 from rfl] at hx265_1); (try rw [Addr.add_zero'] at hx265_1); (try rw [show ((0 : Int)).toNat = 0 from rfl] at hx265_2); (try rw [show 0 * 5 = 0 from rfl] at hx265_2); (try rw [Addr.add_zero'] at hx265_2); (try rw [show ((0 : Int)).toNat = 0 from rfl] at hx265_3); (try rw [show 0 * 5 = 0 from rfl] at hx265_3); (try rw [Addr.add_zero'] at hx265_3); (try rw [show ((0 : Int)).toNat = 0 from rfl] at hx265_4); (try rw [show 0 * 5 = 0 from rfl] at hx265_4); (try rw [Addr.add_zero'] at hx265_4); have HR265_2 := Aside0.mk hi265_2; have HC265_2 := Aside0.mk hl265_2; clear hi265_2 hl265_2; replace p265 := eq_true p265; replace q265 := eq_true q265) | ((with_reducible refine gate_callee (f := 28) rfl ?_); refine goesL_ (some 78) rfl rfl Tryd.func28 (by kernel_rfl) rfl #[.agg #[.int .u64 ((rd_T48 x0_2 0).f0), .string ((rd_T48 x0_2 0).f1), .slice A265_2 ((rd_T48 x0_2 0).f2).length c265_2, .int .u64 ((rd_T48 x0_2 0).f3), .int .u64 ((rd_T48 x0_2 0).f4)], .int .i64 (x10_2.length : Int)] rfl (by (try simp only [List.map_toArray, List.map_cons, List.map_nil]); first | done | rfl | (simp only [List.length_drop, List.length_take]; rfl)) ?_; (with_reducible refine (gazetteref14_at.calls ((rd_T48 x0_2 0).f0) ((rd_T48 x0_2 0).f1) _ _ ((rd_T48 x0_2 0).f2) ((rd_T48 x0_2 0).f3) ((rd_T48 x0_2 0).f4) (x10_2.length : Int) t266 t267 t268 t271 t272 _ ?side1 ?side2 A27.out).mono ?_); (case side1 => repeat (first | exact (by repeat (first | (with_reducible exact HR265_2.out) | (with_reducible refine Kd.C_alloc ?_ _) | (with_reducible refine Kd.C_drewN ?_ _) | (with_reducible refine Kd.C_drew ?_) | exact HR265_2.out)) | (with_reducible refine Kd.C_alloc ?_ _) | (with_reducible refine Kd.C_drewN ?_ _) | (with_reducible refine Kd.C_drew ?_))); (case side2 => exact HC265_2.out); rintro e w32 ⟨v269, rfl, ho0, hb⟩; refine ⟨_, rfl, ?_⟩; have n0_ := Aside0.mk (Kd.V_elder' (by (with_reducible repeat (first | apply Kd.V_alloc | apply Kd.V_drewN | apply Kd.V_drew)); exact HO_0.out) (Kd.R_base ho0) hb); have n1_ := Aside0.mk (Kd.V_elder' (by (with_reducible repeat (first | apply Kd.V_alloc | apply Kd.V_drewN | apply Kd.V_drew)); exact HO_1.out) (Kd.R_base ho0) hb); have n2_ := Aside0.mk (Kd.S_elder' (by (with_reducible repeat (first | apply Kd.S_alloc | apply Kd.S_drewN | apply Kd.S_drew)); exact HO_10.out) (Kd.R_base ho0) hb); have n3_ := Aside0.mk (Kd.R_below (by (with_reducible repeat (first | apply Kd.R_alloc | apply Kd.R_drewN | apply Kd.R_drew)); exact HO_12.out) hb); have n4_ := Aside0.mk (Kd.R_below (by (with_reducible repeat (first | apply Kd.R_alloc | apply Kd.R_drewN | apply Kd.R_drew)); exact HO264.out) hb); have n5_ := Aside0.mk (Kd.V_elder' (by (with_reducible repeat (first | apply Kd.V_alloc | apply Kd.V_drewN | apply Kd.V_drew)); exact HL265_2.out) (Kd.R_base ho0) hb); have n6_ := Aside0.mk (Kd.R_lower (Kd.R_newM (M := fun k_ => (w.heap.size ≤ k_)) ho0 (below_size (by repeat (first | (with_reducible first | exact HB.out | apply below_alloc | apply pw_below_drewN | apply below_drew1) | exact HB.out))) (fun k_ h_ => h_)) (below_size (by repeat (first | (with_reducible first | exact HB.out | apply below_alloc | apply pw_below_drewN | apply below_drew1) | exact HB.out)))); have n7_ := Aside0.mk (Kd.C_below (by repeat (first | (with_reducible exact HR265_2.out) | (with_reducible refine Kd.C_alloc ?_ _) | (with_reducible refine Kd.C_drewN ?_ _) | (with_reducible refine Kd.C_drew ?_) | exact HR265_2.out)) hb); have n8_ := Aside0.mk (below_step (by repeat (first | (with_reducible first | exact HB.out | apply below_alloc | apply pw_below_drewN | apply below_drew1) | exact HB.out)) hb); clear HO_0; clear HO_1; clear HO_10; clear HO_12; clear HO264; clear HL265_2; clear HR265_2; clear HB; have HO_0 := n0_; have HO_1 := n1_; have HO_10 := n2_; have HO_12 := n3_; have HO264 := n4_; have HL265_2 := n5_; have HO270 := n6_; have HR265_2 := n7_; have HB := n8_; clear n0_ n1_ n2_ n3_ n4_ n5_ n6_ n7_ n8_; (try clear hb); (try clear hb2); (try clear hk); (try clear hi); (try clear ho0); obtain ⟨Ao34, co34, eo34⟩ := Kd.R_slice HO270.out; subst eo34) | ((with_reducible refine gate_builtin (b := .append) (xs := #[.tmp 72, .tmp 79]) rfl ?_); (try (refine gate_guard (by rfl) ?_; dsimp only)); at_builtin; refine Kd.S_append k48 (w0 := w) w.heap.size rfl (.tmp 72) (.tmp 79) 22 48 (.agg #[(.int .u64 0), (.string ⟨#[]⟩), (.slice none 0 0), (.int .u64 0), (.int .u64 0)]) 64 rfl Tryd.underlying22 info48 rfl (by decide) (by omega) (.slice Ao30 x10_2.length co30) x10_2 (⟨t266, t267, t268, t271, t272⟩ : S48) [.int .u64 t266, .string t267, .slice Ao34 t268.length co34, .int .u64 t271, .int .u64 t272] (fun k_ => (w.heap.size ≤ k_)) (fun k_ => some k_ = (.slice Ao34 t268.length co34 : Value).ownBlock) rfl rfl ?aP (fun k_ hk_ => ((Kd.R_mono (ok' := fun k_ => ((fun k_ => (w.heap.size ≤ k_))) k_ ∧ some k_ ≠ (.slice Ao30 x10_2.length co30 : Value).ownBlock) (Kd.R_apart' (HO270.out) (Kd.S_typed HO_10.out) (by decide)) (fun k_ hk => ⟨hk.1.1, hk.2⟩))).1 k_ hk_.symm) ?aF ?aO ?aB ?aS ?aL ?_; (case aP => exact k48_mkM _ _ _ (⟨t266, t267, t268, t271, t272⟩ : S48) (Kd.R_mono (Kd.R_tight rfl (Kd.R_mono (ok' := fun k_ => ((fun k_ => (w.heap.size ≤ k_))) k_ ∧ some k_ ≠ (.slice Ao30 x10_2.length co30 : Value).ownBlock) (Kd.R_apart' (HO270.out) (Kd.S_typed HO_10.out) (by decide)) (fun k_ hk => ⟨hk.1.1, hk.2⟩))) (fun _ h_ => h_))); (case aB => exact (by repeat (first | (with_reducible first | exact HB.out | apply below_alloc | apply pw_below_drewN | apply below_drew1) | exact HB.out))); (case aF => exact (fun k_ hk => (Nat.le_trans (below_size (by repeat (first | (with_reducible first | exact HB.out | apply below_alloc | apply pw_below_drewN | apply below_drew1) | exact HB.out))) hk))); (case aO => exact (by (with_reducible repeat (first | apply Kd.S_alloc | apply Kd.S_drewN | apply Kd.S_drew)); exact Kd.S_mono HO_10.out (fun k_ hk => ⟨hk.1, fun e_ => hk.2 e_⟩))); (case aS => exact (below_size (by repeat (first | (with_reducible first | exact HB.out | apply below_alloc | apply pw_below_drewN | apply below_drew1) | exact HB.out)))); (case aL => have := LMc28.out; omega); intro v274 w33 ho hb hg hat; rw [← Ny273.out] at ho; have n0_ := Aside0.mk (Kd.V_afterv (ok := (fun k_ => ((P0_ k_ ∨ P1_ k_) ∨ w.heap.size ≤ k_) ∧ some k_ ≠ (u12 : Value).ownBlock ∧ some k_ ≠ (v263 : Value).ownBlock ∧ some k_ ≠ (.slice Ao34 t268.length co34 : Value).ownBlock)) (by (with_reducible repeat (first | apply Kd.V_alloc | apply Kd.V_drewN | apply Kd.V_drew)); exact Kd.V_mono HO_0.out (fun _ hk => ⟨⟨hk.1.1.1, ⟨hk.1.1.2.2, ⟨hk.1.2, hk.2⟩⟩⟩, hk.1.1.2.1⟩)) hg hat); have n1_ := Aside0.mk (Kd.V_afterv (ok := (fun k_ => ((P0_ k_ ∨ P1_ k_) ∨ w.heap.size ≤ k_) ∧ some k_ ≠ (u12 : Value).ownBlock ∧ some k_ ≠ (v263 : Value).ownBlock ∧ some k_ ≠ (.slice Ao34 t268.length co34 : Value).ownBlock)) (by (with_reducible repeat (first | apply Kd.V_alloc | apply Kd.V_drewN | apply Kd.V_drew)); exact Kd.V_mono HO_1.out (fun _ hk => ⟨⟨hk.1.1.1, ⟨hk.1.1.2.2, ⟨hk.1.2, hk.2⟩⟩⟩, hk.1.1.2.1⟩)) hg hat); have n2_ := Aside0.mk (Kd.R_over' (by (with_reducible repeat (first | apply Kd.R_alloc | apply Kd.R_drewN | apply Kd.R_drew)); exact HO_12.out) (Kd.S_typed (by (with_reducible repeat (first | apply Kd.S_alloc | apply Kd.S_drewN | apply Kd.S_drew)); exact HO_10.out)) (by decide) hg); have n3_ := Aside0.mk (Kd.R_over' (by (with_reducible repeat (first | apply Kd.R_alloc | apply Kd.R_drewN | apply Kd.R_drew)); exact HO264.out) (Kd.S_typed (by (with_reducible repeat (first | apply Kd.S_alloc | apply Kd.S_drewN | apply Kd.S_drew)); exact HO_10.out)) (by decide) hg); have n4_ := Aside0.mk (Kd.V_afterv (ok := (fun k_ => ((P0_ k_ ∨ P1_ k_) ∨ w.heap.size ≤ k_) ∧ some k_ ≠ (u12 : Value).ownBlock ∧ some k_ ≠ (v263 : Value).ownBlock ∧ some k_ ≠ (.slice Ao34 t268.length co34 : Value).ownBlock)) (by (with_reducible repeat (first | apply Kd.V_alloc | apply Kd.V_drewN | apply Kd.V_drew)); exact Kd.V_mono HL265_2.out (fun _ hk => ⟨⟨hk.1.1.1, ⟨hk.1.1.2.2, ⟨hk.1.2, hk.2⟩⟩⟩, hk.1.1.2.1⟩)) hg hat); have n5_ := Aside0.mk (hb); have n6_ := Aside0.mk (ho); clear HO_0; clear HO_1; clear HO_12; clear HO264; clear HL265_2; clear HB; clear HO_10; clear HO270; have HO_0 := n0_; have HO_1 := n1_; have HO_12 := n2_; have HO264 := n3_; have HL265_2 := n4_; have HB := n5_; have HO275 := n6_; clear n0_ n1_ n2_ n3_ n4_ n5_ n6_; clear ho hb hg hat; have q35 : (1 : Int) ≤ ((x0_2.length : Int) : Int) := of_decide_eq_true (by first | (with_reducible assumption) | assumption); obtain ⟨i035, hi035, _, hsz35, _⟩ := info_parts info48; have hroom35 : x0_2.length ≤ co11 := (Kd.V_reads' HO_0.out).2.1; have hC35 : Kd.F k48 _ _ (some ad265) x0_2.length x0_2 := (Kd.V_at (base := w.heap.size) HO_0.out).2.2; have hcut35 := cut_from (P := Tryd.prog) 22 48 .i64 Tryd.underlying22 hi035 5 hsz35 (some ad265) x0_2.length co11 1 (by omega) q35; have hr35 := Kd.F_cut (m := (1 : Int).toNat) (c := co11) hC35 (by omega) hroom35; obtain ⟨A35, hA35⟩ : ∃ A1, A1 = (if co11 = (1 : Int).toNat then (some ad265) else ((some ad265) : Option Addr).map (·.add ((1 : Int).toNat * 5))) := ⟨_, rfl⟩; obtain ⟨c35, hc35⟩ : ∃ c1, c1 = co11 - (1 : Int).toNat := ⟨_, rfl⟩; have hy35 : y276.length = x0_2.length - (1 : Int).toNat := (by rw [Ny276.out, List.length_drop] <;> omega); rw [show (x0_2).drop (1 : Int).toNat = y276 from Ny276.out.symm] at hr35; replace hr35 : Kd.F k48 _ _ A35 y276.length y276 := (by rw [hA35]; exact hr35); rw [← hy35, ← hA35, ← hc35] at hcut35; have HO280 := Aside0.mk (show Kd.V k48 48 _ w.heap.size _ (.slice A35 y276.length c35) y276 from Kd.V_mk (by rw [hy35, hc35]; exact Nat.sub_le_sub_right hroom35 _) hr35); have HC280 := Aside0.mk (show y276.length ≤ c35 from by rw [hy35, hc35]; exact Nat.sub_le_sub_right hroom35 _); clear hr35 hC35 hroom35 hi035 hsz35 hc35; have KY35 := Aside0.mk hy35; have KA35 := Aside0.mk hA35; clear hy35 hA35; replace q35 := eq_true q35))
                                      go_roundg kj18
                                      case measure => have := HJ4.out; have := HK2.out; have := HJ9.out; have := HJ16.out; have := HJ18.out; omega
                                      case rel => exact ⟨(y276), (x1_2), (y273), (y262), (x12_2), H', ⟨by have := HJ4.out; have := HK2.out; have := HJ9.out; have := HJ16.out; have := HJ18.out; omega⟩, ⟨by (with_reducible repeat (first | apply Kd.V_alloc | apply Kd.V_drewN | apply Kd.V_drew)); exact Kd.V_mono HO280.out (fun _ hk => ⟨hk.1.1, ⟨hk.2, ⟨hk.1.2.2.1, hk.1.2.1⟩⟩⟩)⟩, ⟨by (with_reducible repeat (first | apply Kd.V_alloc | apply Kd.V_drewN | apply Kd.V_drew)); exact Kd.V_mono HO_1.out (fun _ hk => ⟨hk.1.1, ⟨hk.2, ⟨hk.1.2.2.1, hk.1.2.1⟩⟩⟩)⟩, ⟨by (with_reducible repeat (first | apply Kd.S_alloc | apply Kd.S_drewN | apply Kd.S_drew)); exact HO275.out⟩, ⟨by (with_reducible repeat (first | apply Kd.R_alloc | apply Kd.R_drewN | apply Kd.R_drew)); exact HO264.out⟩, ⟨by (with_reducible repeat (first | apply Kd.R_alloc | apply Kd.R_drewN | apply Kd.R_drew)); exact HO_12.out⟩, ⟨by repeat (first | (with_reducible first | exact HB.out | apply below_alloc | apply pw_below_drewN | apply below_drew1) | exact HB.out)⟩⟩
                                    · rw [if_neg c29] at H
                                      exact absurd H (by simp)
                                  · rw [if_neg c28] at H
                                    exact absurd H (by simp)
                                · rw [if_neg c26] at H
                                  exact absurd H (by simp)
                              · rw [if_neg c25] at H
                                exact absurd H (by simp)
                            · replace c24 := Bool.eq_false_iff.mpr c24
                              subst c24
                              have H1 : (if x14_18 = true then (if x12_2.length < 17592186044416 then (if 0 < (x1_2.length : Int) then ((gazetteref14_at.f ((rd_T48 x1_2 0).f0) ((rd_T48 x1_2 0).f1) ((rd_T48 x1_2 0).f2) ((rd_T48 x1_2 0).f3) ((rd_T48 x1_2 0).f4) (x10_2.length : Int)).bind fun bt285 => (if x10_2.length < 2199023255552 then (if 1 ≤ (x1_2.length : Int) then (gazetteref14_Join.l0 kj18 x0_2 (x1_2.drop 1) (x10_2 ++ [(⟨bt285.1, bt285.2.1, bt285.2.2.1, bt285.2.2.2.1, bt285.2.2.2.2⟩ : S48)]) x11_2 (x12_2 ++ [IntKind.u64.wrap ((x10_2.length : Int))])) else (none)) else (none))) else (none)) else (none)) else (some (([] : List (S48)), ([] : List Int), ([] : List Int), 145))) = some (r1, r2, r3, r4) := by rw [if_neg (show ¬ (false = true) by decide)] at H; exact H
                              clear H
                              have H := H1
                              clear H1
                              by_cases c36 : x14_18 = true
                              · subst c36
                                have H1 : (if x12_2.length < 17592186044416 then (if 0 < (x1_2.length : Int) then ((gazetteref14_at.f ((rd_T48 x1_2 0).f0) ((rd_T48 x1_2 0).f1) ((rd_T48 x1_2 0).f2) ((rd_T48 x1_2 0).f3) ((rd_T48 x1_2 0).f4) (x10_2.length : Int)).bind fun bt285 => (if x10_2.length < 2199023255552 then (if 1 ≤ (x1_2.length : Int) then (gazetteref14_Join.l0 kj18 x0_2 (x1_2.drop 1) (x10_2 ++ [(⟨bt285.1, bt285.2.1, bt285.2.2.1, bt285.2.2.2.1, bt285.2.2.2.2⟩ : S48)]) x11_2 (x12_2 ++ [IntKind.u64.wrap ((x10_2.length : Int))])) else (none)) else (none))) else (none)) else (none)) = some (r1, r2, r3, r4) := by rw [if_pos rfl] at H; exact H
                                clear H
                                have H := H1
                                clear H1
                                by_cases c37 : x12_2.length < 17592186044416
                                · rw [if_pos c37] at H
                                  have LMc37 := Aside0.mk c37
                                  clear c37
                                  obtain ⟨y281, hy281⟩ : ∃ y_ : List Int, y_ = (x12_2 ++ [IntKind.u64.wrap ((x10_2.length : Int))]) := ⟨_, rfl⟩
                                  replace H : (if 0 < (x1_2.length : Int) then ((gazetteref14_at.f ((rd_T48 x1_2 0).f0) ((rd_T48 x1_2 0).f1) ((rd_T48 x1_2 0).f2) ((rd_T48 x1_2 0).f3) ((rd_T48 x1_2 0).f4) (x10_2.length : Int)).bind fun bt285 => (if x10_2.length < 2199023255552 then (if 1 ≤ (x1_2.length : Int) then (gazetteref14_Join.l0 kj18 x0_2 (x1_2.drop 1) (x10_2 ++ [(⟨bt285.1, bt285.2.1, bt285.2.2.1, bt285.2.2.2.1, bt285.2.2.2.2⟩ : S48)]) x11_2 y281) else (none)) else (none))) else (none)) = some (r1, r2, r3, r4) := by first | (rw [hy281]; with_reducible exact H) | (have H2_ := (Option.bind_some _ _).symm.trans H; rw [hy281]; with_reducible exact H2_) | (have H2_ := (Option.bind_some _ _).symm.trans H; with_reducible exact H2_) | with_reducible exact H | (rw [hy281]; exact H) | exact H
                                  have Ny281 := Aside0.mk hy281
                                  clear hy281
                                  by_cases c38 : 0 < (x1_2.length : Int)
                                  · rw [if_pos c38] at H
                                    have c38b0 : decide (0 < (x1_2.length : Int)) = true := decide_eq_true c38
                                    have c38b1 : decide (0 < x1_2.length) = true := decide_eq_true (by omega)
                                    clear c38
                                    replace H := Option.bind_eq_some_iff.mp H
                                    obtain ⟨⟨t285, t286, t287, t290, t291⟩, A390, H⟩ := H
                                    replace H : (if x10_2.length < 2199023255552 then (if 1 ≤ (x1_2.length : Int) then (gazetteref14_Join.l0 kj18 x0_2 (x1_2.drop 1) (x10_2 ++ [(⟨t285, t286, t287, t290, t291⟩ : S48)]) x11_2 y281) else (none)) else (none)) = some (r1, r2, r3, r4) := H
                                    have A39 := Aside0.mk A390
                                    clear A390
                                    by_cases c40 : x10_2.length < 2199023255552
                                    · rw [if_pos c40] at H
                                      have LMc40 := Aside0.mk c40
                                      clear c40
                                      obtain ⟨y292, hy292⟩ : ∃ y_ : List (S48), y_ = (x10_2 ++ [(⟨t285, t286, t287, t290, t291⟩ : S48)]) := ⟨_, rfl⟩
                                      replace H : (if 1 ≤ (x1_2.length : Int) then (gazetteref14_Join.l0 kj18 x0_2 (x1_2.drop 1) y292 x11_2 y281) else (none)) = some (r1, r2, r3, r4) := by first | (rw [hy292]; with_reducible exact H) | (have H2_ := (Option.bind_some _ _).symm.trans H; rw [hy292]; with_reducible exact H2_) | (have H2_ := (Option.bind_some _ _).symm.trans H; with_reducible exact H2_) | with_reducible exact H | (rw [hy292]; exact H) | exact H
                                      have Ny292 := Aside0.mk hy292
                                      clear hy292
                                      by_cases c41 : 1 ≤ (x1_2.length : Int)
                                      · rw [if_pos c41] at H
                                        have c41b0 := eq_true c41
                                        have c41b1 : decide (1 ≤ (x1_2.length : Int)) = true := decide_eq_true c41
                                        clear c41
                                        obtain ⟨y295, hy295⟩ : ∃ y_ : List (S48), y_ = (x1_2.drop 1) := ⟨_, rfl⟩
                                        replace H : (gazetteref14_Join.l0 kj18 x0_2 y295 y292 x11_2 y281) = some (r1, r2, r3, r4) := by first | (rw [hy295]; with_reducible exact H) | (have H2_ := (Option.bind_some _ _).symm.trans H; rw [hy295]; with_reducible exact H2_) | (have H2_ := (Option.bind_some _ _).symm.trans H; with_reducible exact H2_) | with_reducible exact H | (rw [hy295]; exact H) | exact H
                                        have Ny295 := Aside0.mk hy295
                                        clear hy295
                                        have H' := Aside0.mk H
                                        clear H
                                        obtain ⟨Ao42, co42, eo42⟩ := Kd.S_slice HO_10.out
                                        subst eo42
                                        go_wp2_with (first | ((with_reducible refine gate_builtin (b := .append) (xs := #[.tmp 85, .tmp 89]) rfl ?_); (try (refine gate_guard (by rfl) ?_; dsimp only)); at_builtin; refine Kd.R_append (Kd.int .u64) (w0 := w) w.heap.size rfl (.tmp 85) (.tmp 89) 27 37 (.int .u64 0) 8 rfl Tryd.underlying27 info37 rfl (by decide) (by omega) u12 x12_2 (IntKind.u64.wrap ((x10_2.length : Int))) [.int .u64 (IntKind.u64.wrap ((x10_2.length : Int)))] (fun k_ => (w.heap.size ≤ k_) ∧ some k_ ≠ (u11 : Value).ownBlock) (fun _ => False) rfl rfl ?aP (fun _ hk => hk.elim) ?aF ?aO ?aB ?aS ?aL ?_; (case aP => exact rfl); (case aB => exact (by repeat (first | (with_reducible first | exact HB.out | apply below_alloc | apply pw_below_drewN | apply below_drew1) | exact HB.out))); (case aF => exact (fun k_ hk => ⟨(Nat.le_trans (below_size (by repeat (first | (with_reducible first | exact HB.out | apply below_alloc | apply pw_below_drewN | apply below_drew1) | exact HB.out))) hk), Kd.fresh' (Kd.R_lt (by (with_reducible repeat (first | apply Kd.R_alloc | apply Kd.R_drewN | apply Kd.R_drew)); exact HO_11.out)) k_ hk⟩)); (case aO => exact (by (with_reducible repeat (first | apply Kd.R_alloc | apply Kd.R_drewN | apply Kd.R_drew)); exact HO_12.out)); (case aS => exact (below_size (by repeat (first | (with_reducible first | exact HB.out | apply below_alloc | apply pw_below_drewN | apply below_drew1) | exact HB.out)))); (case aL => have := LMc37.out; omega); intro v282 w43 ho hb hg hat; rw [← Ny281.out] at ho; have n0_ := Aside0.mk (Kd.V_afterv (ok := (fun k_ => ((P0_ k_ ∨ P1_ k_) ∨ w.heap.size ≤ k_) ∧ some k_ ≠ (.slice Ao42 x10_2.length co42 : Value).ownBlock ∧ some k_ ≠ (u11 : Value).ownBlock)) (by (with_reducible repeat (first | apply Kd.V_alloc | apply Kd.V_drewN | apply Kd.V_drew)); exact Kd.V_mono HO_0.out (fun _ hk => ⟨⟨hk.1, ⟨hk.2.1, hk.2.2.1⟩⟩, hk.2.2.2⟩)) hg hat); have n1_ := Aside0.mk (Kd.V_afterv (ok := (fun k_ => ((P0_ k_ ∨ P1_ k_) ∨ w.heap.size ≤ k_) ∧ some k_ ≠ (.slice Ao42 x10_2.length co42 : Value).ownBlock ∧ some k_ ≠ (u11 : Value).ownBlock)) (by (with_reducible repeat (first | apply Kd.V_alloc | apply Kd.V_drewN | apply Kd.V_drew)); exact Kd.V_mono HO_1.out (fun _ hk => ⟨⟨hk.1, ⟨hk.2.1, hk.2.2.1⟩⟩, hk.2.2.2⟩)) hg hat); have n2_ := Aside0.mk (Kd.S_over' (by (with_reducible repeat (first | apply Kd.S_alloc | apply Kd.S_drewN | apply Kd.S_drew)); exact HO_10.out) (Kd.R_typed (by (with_reducible repeat (first | apply Kd.R_alloc | apply Kd.R_drewN | apply Kd.R_drew)); exact HO_12.out)) (by decide) hg); have n3_ := Aside0.mk (Kd.R_after (ok := (fun k_ => (w.heap.size ≤ k_))) (by (with_reducible repeat (first | apply Kd.R_alloc | apply Kd.R_drewN | apply Kd.R_drew)); exact HO_11.out) hg hat); have n4_ := Aside0.mk (hb); have n5_ := Aside0.mk (ho); clear HO_0; clear HO_1; clear HO_10; clear HO_11; clear HB; clear HO_12; have HO_0 := n0_; have HO_1 := n1_; have HO_10 := n2_; have HO_11 := n3_; have HB := n4_; have HO283 := n5_; clear n0_ n1_ n2_ n3_ n4_ n5_; clear ho hb hg hat; have p284 : 0 ≤ (0 : Int) := (by omega); have q284 : 0 < (x1_2.length : Int) := of_decide_eq_true (by first | (with_reducible assumption) | assumption); obtain ⟨ad284, A284_2, c284_2, e284, hx284_0, hx284_1, hx284_2, hx284_3, hx284_4, hl284_2, hi284_2⟩ := at_T48 (Kd.V_reads' HO_1.out).2.2 0 p284 q284; cases e284; obtain ⟨ce284, hce284, hMe284, hcc284⟩ := Kd.V_get HO_1.out z48 0 p284 (by first | exact q284 | exact of_decide_eq_true (by first | (with_reducible assumption) | assumption) | (have e_ := (Kd.V_reads' HO_1.out).1; omega)); obtain ⟨ua284_2, uc284_2, rfl, ul284_2, ge284_2⟩ := k48_openF hMe284; have hv284_2 := hcc284 2 _ rfl; rw [add_field _ _ 2 (by omega)] at hv284_2; replace hv284_2 := Option.some.inj (hv284_2.symm.trans hx284_2); injection hv284_2 with hva_ hvn_ hvc_; rw [hva_] at ge284_2; rw [hvc_] at ul284_2; have HL284_2 := Aside0.mk (show Kd.V (Kd.int .u8) 5 _ w.heap.size _ _ ((rd_T48 x1_2 0).f2) from Kd.V_mk ul284_2 ge284_2); clear hva_ hvn_ hvc_ ge284_2 ul284_2; clear hcc284 hce284; have qi284 : (0 < x1_2.length) = True := eq_true (by omega); (try rw [show ((0 : Int)).toNat = 0 from rfl] at hx284_0); (try rw [show 0 * 5 = 0 from rfl] at hx284_0); (try rw [Addr.add_zero'] at hx284_0); (try rw [show ((0 : Int)).toNat = 0 from rfl] at hx284_1); (try rw [show 0 * 5 = 0 from rfl] at hx284_1); (try rw [Addr.add_zero'] at hx284_1); (try rw [show ((0 : Int)).toNat = 0 from rfl] at hx284_2); (try rw [show 0 * 5 = 0 from rfl] at hx284_2); (try rw [Addr.add_zero'] at hx284_2); (try rw [show ((0 : Int)).toNat = 0 from rfl] at hx284_3); (try rw [show 0 * 5 = 0 from rfl] at hx284_3); (try rw [Addr.add_zero'] at hx284_3); (try rw [show ((0 : Int)).toNat = 0 from rfl] at hx284_4); (try rw [show 0 * 5 = 0 from rfl] at hx284_4); (try rw [Addr.add_zero'] at hx284_4); have HR284_2 := Aside0.mk hi284_2; have HC284_2 := Aside0.mk hl284_2; clear hi284_2 hl284_2; replace p284 := eq_true p284; replace q284 := eq_true q284) | ((with_reducible refine gate_callee (f := 28) rfl ?_); refine goesL_ (some 97) rfl rfl Tryd.func28 (by kernel_rfl) rfl #[.agg #[.int .u64 ((rd_T48 x1_2 0).f0), .string ((rd_T48 x1_2 0).f1), .slice A284_2 ((rd_T48 x1_2 0).f2).length c284_2, .int .u64 ((rd_T48 x1_2 0).f3), .int .u64 ((rd_T48 x1_2 0).f4)], .int .i64 (x10_2.length : Int)] rfl (by (try simp only [List.map_toArray, List.map_cons, List.map_nil]); first | done | rfl | (simp only [List.length_drop, List.length_take]; rfl)) ?_; (with_reducible refine (gazetteref14_at.calls ((rd_T48 x1_2 0).f0) ((rd_T48 x1_2 0).f1) _ _ ((rd_T48 x1_2 0).f2) ((rd_T48 x1_2 0).f3) ((rd_T48 x1_2 0).f4) (x10_2.length : Int) t285 t286 t287 t290 t291 _ ?side1 ?side2 A39.out).mono ?_); (case side1 => repeat (first | exact (by repeat (first | (with_reducible exact HR284_2.out) | (with_reducible refine Kd.C_alloc ?_ _) | (with_reducible refine Kd.C_drewN ?_ _) | (with_reducible refine Kd.C_drew ?_) | exact HR284_2.out)) | (with_reducible refine Kd.C_alloc ?_ _) | (with_reducible refine Kd.C_drewN ?_ _) | (with_reducible refine Kd.C_drew ?_))); (case side2 => exact HC284_2.out); rintro e w44 ⟨v288, rfl, ho0, hb⟩; refine ⟨_, rfl, ?_⟩; have n0_ := Aside0.mk (Kd.V_elder' (by (with_reducible repeat (first | apply Kd.V_alloc | apply Kd.V_drewN | apply Kd.V_drew)); exact HO_0.out) (Kd.R_base ho0) hb); have n1_ := Aside0.mk (Kd.V_elder' (by (with_reducible repeat (first | apply Kd.V_alloc | apply Kd.V_drewN | apply Kd.V_drew)); exact HO_1.out) (Kd.R_base ho0) hb); have n2_ := Aside0.mk (Kd.S_elder' (by (with_reducible repeat (first | apply Kd.S_alloc | apply Kd.S_drewN | apply Kd.S_drew)); exact HO_10.out) (Kd.R_base ho0) hb); have n3_ := Aside0.mk (Kd.R_below (by (with_reducible repeat (first | apply Kd.R_alloc | apply Kd.R_drewN | apply Kd.R_drew)); exact HO_11.out) hb); have n4_ := Aside0.mk (Kd.R_below (by (with_reducible repeat (first | apply Kd.R_alloc | apply Kd.R_drewN | apply Kd.R_drew)); exact HO283.out) hb); have n5_ := Aside0.mk (Kd.V_elder' (by (with_reducible repeat (first | apply Kd.V_alloc | apply Kd.V_drewN | apply Kd.V_drew)); exact HL284_2.out) (Kd.R_base ho0) hb); have n6_ := Aside0.mk (Kd.R_lower (Kd.R_newM (M := fun k_ => (w.heap.size ≤ k_)) ho0 (below_size (by repeat (first | (with_reducible first | exact HB.out | apply below_alloc | apply pw_below_drewN | apply below_drew1) | exact HB.out))) (fun k_ h_ => h_)) (below_size (by repeat (first | (with_reducible first | exact HB.out | apply below_alloc | apply pw_below_drewN | apply below_drew1) | exact HB.out)))); have n7_ := Aside0.mk (Kd.C_below (by repeat (first | (with_reducible exact HR284_2.out) | (with_reducible refine Kd.C_alloc ?_ _) | (with_reducible refine Kd.C_drewN ?_ _) | (with_reducible refine Kd.C_drew ?_) | exact HR284_2.out)) hb); have n8_ := Aside0.mk (below_step (by repeat (first | (with_reducible first | exact HB.out | apply below_alloc | apply pw_below_drewN | apply below_drew1) | exact HB.out)) hb); clear HO_0; clear HO_1; clear HO_10; clear HO_11; clear HO283; clear HL284_2; clear HR284_2; clear HB; have HO_0 := n0_; have HO_1 := n1_; have HO_10 := n2_; have HO_11 := n3_; have HO283 := n4_; have HL284_2 := n5_; have HO289 := n6_; have HR284_2 := n7_; have HB := n8_; clear n0_ n1_ n2_ n3_ n4_ n5_ n6_ n7_ n8_; (try clear hb); (try clear hb2); (try clear hk); (try clear hi); (try clear ho0); obtain ⟨Ao46, co46, eo46⟩ := Kd.R_slice HO289.out; subst eo46) | ((with_reducible refine gate_builtin (b := .append) (xs := #[.tmp 91, .tmp 98]) rfl ?_); (try (refine gate_guard (by rfl) ?_; dsimp only)); at_builtin; refine Kd.S_append k48 (w0 := w) w.heap.size rfl (.tmp 91) (.tmp 98) 22 48 (.agg #[(.int .u64 0), (.string ⟨#[]⟩), (.slice none 0 0), (.int .u64 0), (.int .u64 0)]) 64 rfl Tryd.underlying22 info48 rfl (by decide) (by omega) (.slice Ao42 x10_2.length co42) x10_2 (⟨t285, t286, t287, t290, t291⟩ : S48) [.int .u64 t285, .string t286, .slice Ao46 t287.length co46, .int .u64 t290, .int .u64 t291] (fun k_ => (w.heap.size ≤ k_)) (fun k_ => some k_ = (.slice Ao46 t287.length co46 : Value).ownBlock) rfl rfl ?aP (fun k_ hk_ => ((Kd.R_mono (ok' := fun k_ => ((fun k_ => (w.heap.size ≤ k_))) k_ ∧ some k_ ≠ (.slice Ao42 x10_2.length co42 : Value).ownBlock) (Kd.R_apart' (HO289.out) (Kd.S_typed HO_10.out) (by decide)) (fun k_ hk => ⟨hk.1.1, hk.2⟩))).1 k_ hk_.symm) ?aF ?aO ?aB ?aS ?aL ?_; (case aP => exact k48_mkM _ _ _ (⟨t285, t286, t287, t290, t291⟩ : S48) (Kd.R_mono (Kd.R_tight rfl (Kd.R_mono (ok' := fun k_ => ((fun k_ => (w.heap.size ≤ k_))) k_ ∧ some k_ ≠ (.slice Ao42 x10_2.length co42 : Value).ownBlock) (Kd.R_apart' (HO289.out) (Kd.S_typed HO_10.out) (by decide)) (fun k_ hk => ⟨hk.1.1, hk.2⟩))) (fun _ h_ => h_))); (case aB => exact (by repeat (first | (with_reducible first | exact HB.out | apply below_alloc | apply pw_below_drewN | apply below_drew1) | exact HB.out))); (case aF => exact (fun k_ hk => (Nat.le_trans (below_size (by repeat (first | (with_reducible first | exact HB.out | apply below_alloc | apply pw_below_drewN | apply below_drew1) | exact HB.out))) hk))); (case aO => exact (by (with_reducible repeat (first | apply Kd.S_alloc | apply Kd.S_drewN | apply Kd.S_drew)); exact Kd.S_mono HO_10.out (fun k_ hk => ⟨hk.1, fun e_ => hk.2 e_⟩))); (case aS => exact (below_size (by repeat (first | (with_reducible first | exact HB.out | apply below_alloc | apply pw_below_drewN | apply below_drew1) | exact HB.out)))); (case aL => have := LMc40.out; omega); intro v293 w45 ho hb hg hat; rw [← Ny292.out] at ho; have n0_ := Aside0.mk (Kd.V_afterv (ok := (fun k_ => ((P0_ k_ ∨ P1_ k_) ∨ w.heap.size ≤ k_) ∧ some k_ ≠ (u11 : Value).ownBlock ∧ some k_ ≠ (v282 : Value).ownBlock ∧ some k_ ≠ (.slice Ao46 t287.length co46 : Value).ownBlock)) (by (with_reducible repeat (first | apply Kd.V_alloc | apply Kd.V_drewN | apply Kd.V_drew)); exact Kd.V_mono HO_0.out (fun _ hk => ⟨⟨hk.1.1.1, ⟨hk.1.1.2.2, ⟨hk.1.2, hk.2⟩⟩⟩, hk.1.1.2.1⟩)) hg hat); have n1_ := Aside0.mk (Kd.V_afterv (ok := (fun k_ => ((P0_ k_ ∨ P1_ k_) ∨ w.heap.size ≤ k_) ∧ some k_ ≠ (u11 : Value).ownBlock ∧ some k_ ≠ (v282 : Value).ownBlock ∧ some k_ ≠ (.slice Ao46 t287.length co46 : Value).ownBlock)) (by (with_reducible repeat (first | apply Kd.V_alloc | apply Kd.V_drewN | apply Kd.V_drew)); exact Kd.V_mono HO_1.out (fun _ hk => ⟨⟨hk.1.1.1, ⟨hk.1.1.2.2, ⟨hk.1.2, hk.2⟩⟩⟩, hk.1.1.2.1⟩)) hg hat); have n2_ := Aside0.mk (Kd.R_over' (by (with_reducible repeat (first | apply Kd.R_alloc | apply Kd.R_drewN | apply Kd.R_drew)); exact HO_11.out) (Kd.S_typed (by (with_reducible repeat (first | apply Kd.S_alloc | apply Kd.S_drewN | apply Kd.S_drew)); exact HO_10.out)) (by decide) hg); have n3_ := Aside0.mk (Kd.R_over' (by (with_reducible repeat (first | apply Kd.R_alloc | apply Kd.R_drewN | apply Kd.R_drew)); exact HO283.out) (Kd.S_typed (by (with_reducible repeat (first | apply Kd.S_alloc | apply Kd.S_drewN | apply Kd.S_drew)); exact HO_10.out)) (by decide) hg); have n4_ := Aside0.mk (Kd.V_afterv (ok := (fun k_ => ((P0_ k_ ∨ P1_ k_) ∨ w.heap.size ≤ k_) ∧ some k_ ≠ (u11 : Value).ownBlock ∧ some k_ ≠ (v282 : Value).ownBlock ∧ some k_ ≠ (.slice Ao46 t287.length co46 : Value).ownBlock)) (by (with_reducible repeat (first | apply Kd.V_alloc | apply Kd.V_drewN | apply Kd.V_drew)); exact Kd.V_mono HL284_2.out (fun _ hk => ⟨⟨hk.1.1.1, ⟨hk.1.1.2.2, ⟨hk.1.2, hk.2⟩⟩⟩, hk.1.1.2.1⟩)) hg hat); have n5_ := Aside0.mk (hb); have n6_ := Aside0.mk (ho); clear HO_0; clear HO_1; clear HO_11; clear HO283; clear HL284_2; clear HB; clear HO_10; clear HO289; have HO_0 := n0_; have HO_1 := n1_; have HO_11 := n2_; have HO283 := n3_; have HL284_2 := n4_; have HB := n5_; have HO294 := n6_; clear n0_ n1_ n2_ n3_ n4_ n5_ n6_; clear ho hb hg hat; have q47 : (1 : Int) ≤ ((x1_2.length : Int) : Int) := of_decide_eq_true (by first | (with_reducible assumption) | assumption); obtain ⟨i047, hi047, _, hsz47, _⟩ := info_parts info48; have hroom47 : x1_2.length ≤ co12 := (Kd.V_reads' HO_1.out).2.1; have hC47 : Kd.F k48 _ _ (some ad284) x1_2.length x1_2 := (Kd.V_at (base := w.heap.size) HO_1.out).2.2; have hcut47 := cut_from (P := Tryd.prog) 22 48 .i64 Tryd.underlying22 hi047 5 hsz47 (some ad284) x1_2.length co12 1 (by omega) q47; have hr47 := Kd.F_cut (m := (1 : Int).toNat) (c := co12) hC47 (by omega) hroom47; obtain ⟨A47, hA47⟩ : ∃ A1, A1 = (if co12 = (1 : Int).toNat then (some ad284) else ((some ad284) : Option Addr).map (·.add ((1 : Int).toNat * 5))) := ⟨_, rfl⟩; obtain ⟨c47, hc47⟩ : ∃ c1, c1 = co12 - (1 : Int).toNat := ⟨_, rfl⟩; have hy47 : y295.length = x1_2.length - (1 : Int).toNat := (by rw [Ny295.out, List.length_drop] <;> omega); rw [show (x1_2).drop (1 : Int).toNat = y295 from Ny295.out.symm] at hr47; replace hr47 : Kd.F k48 _ _ A47 y295.length y295 := (by rw [hA47]; exact hr47); rw [← hy47, ← hA47, ← hc47] at hcut47; have HO299 := Aside0.mk (show Kd.V k48 48 _ w.heap.size _ (.slice A47 y295.length c47) y295 from Kd.V_mk (by rw [hy47, hc47]; exact Nat.sub_le_sub_right hroom47 _) hr47); have HC299 := Aside0.mk (show y295.length ≤ c47 from by rw [hy47, hc47]; exact Nat.sub_le_sub_right hroom47 _); clear hr47 hC47 hroom47 hi047 hsz47 hc47; have KY47 := Aside0.mk hy47; have KA47 := Aside0.mk hA47; clear hy47 hA47; replace q47 := eq_true q47))
                                        go_roundg kj18
                                        case measure => have := HJ4.out; have := HK2.out; have := HJ9.out; have := HJ16.out; have := HJ18.out; omega
                                        case rel => exact ⟨(x0_2), (y295), (y292), (x11_2), (y281), H', ⟨by have := HJ4.out; have := HK2.out; have := HJ9.out; have := HJ16.out; have := HJ18.out; omega⟩, ⟨by (with_reducible repeat (first | apply Kd.V_alloc | apply Kd.V_drewN | apply Kd.V_drew)); exact Kd.V_mono HO_0.out (fun _ hk => ⟨hk.1.1, ⟨hk.2, ⟨hk.1.2.1, hk.1.2.2.1⟩⟩⟩)⟩, ⟨by (with_reducible repeat (first | apply Kd.V_alloc | apply Kd.V_drewN | apply Kd.V_drew)); exact Kd.V_mono HO299.out (fun _ hk => ⟨hk.1.1, ⟨hk.2, ⟨hk.1.2.1, hk.1.2.2.1⟩⟩⟩)⟩, ⟨by (with_reducible repeat (first | apply Kd.S_alloc | apply Kd.S_drewN | apply Kd.S_drew)); exact HO294.out⟩, ⟨by (with_reducible repeat (first | apply Kd.R_alloc | apply Kd.R_drewN | apply Kd.R_drew)); exact HO_11.out⟩, ⟨by (with_reducible repeat (first | apply Kd.R_alloc | apply Kd.R_drewN | apply Kd.R_drew)); exact HO283.out⟩, ⟨by repeat (first | (with_reducible first | exact HB.out | apply below_alloc | apply pw_below_drewN | apply below_drew1) | exact HB.out)⟩⟩
                                      · rw [if_neg c41] at H
                                        exact absurd H (by simp)
                                    · rw [if_neg c40] at H
                                      exact absurd H (by simp)
                                  · rw [if_neg c38] at H
                                    exact absurd H (by simp)
                                · rw [if_neg c37] at H
                                  exact absurd H (by simp)
                              · replace c36 := Bool.eq_false_iff.mpr c36
                                subst c36
                                have H1 : (some (([] : List (S48)), ([] : List Int), ([] : List Int), 145)) = some (r1, r2, r3, r4) := by rw [if_neg (show ¬ (false = true) by decide)] at H; exact H
                                clear H
                                have H := H1
                                clear H1
                                simp only [Option.some.injEq, Prod.mk.injEq] at H
                                obtain ⟨rfl, rfl, rfl, rfl⟩ := H
                                go_wp2
                                refine bodyPost_ret (results_list (rs := [.tmp 4, .tmp 5, .tmp 6, .tmp 7]) rfl (by simp) (.tmp (.tmp (.tmp (.tmp .nil))))) rfl ?_
                                exact ⟨_, _, _, by first | rfl | (simp [errW_none, errW_some] <;> rfl) | (simp [*, errW_none, errW_some] <;> rfl), by first | exact Kd.S_nil _ _ _ _ _ | exact Kd.N_nil _ _ _ _ _ | exact Kd.V_nil _ _ _ _ _ | exact Kd.Q_nil _ _ _ _ _ | exact Kd.R_nil _ _ _ _ _, by first | exact Kd.R_nil _ _ _ _ _ | exact Kd.N_nil _ _ _ _ _ | exact Kd.V_nil _ _ _ _ _ | exact Kd.Q_nil _ _ _ _ _ | exact Kd.S_nil _ _ _ _ _, by first | exact Kd.R_nil _ _ _ _ _ | exact Kd.N_nil _ _ _ _ _ | exact Kd.V_nil _ _ _ _ _ | exact Kd.Q_nil _ _ _ _ _ | exact Kd.S_nil _ _ _ _ _, by repeat (first | (with_reducible first | exact HB.out | apply below_alloc | apply pw_below_drewN | apply below_drew1) | exact HB.out)⟩
              · rw [if_neg c9] at H
                have c9b0 : decide (0 < (wrap64 ((x0_2.length : Int) + (x1_2.length : Int)))) = false := decide_eq_false c9
                clear c9
                by_cases c48 : x11_2.length < 17592186044416
                · rw [if_pos c48] at H
                  have LMc48 := Aside0.mk c48
                  clear c48
                  obtain ⟨y252, hy252⟩ : ∃ y_ : List Int, y_ = (x11_2 ++ [IntKind.u64.wrap ((x10_2.length : Int))]) := ⟨_, rfl⟩
                  replace H : (if x12_2.length < 17592186044416 then (some (x10_2, y252, (x12_2 ++ [IntKind.u64.wrap ((x10_2.length : Int))]), 0)) else (none)) = some (r1, r2, r3, r4) := by first | (rw [hy252]; with_reducible exact H) | (have H2_ := (Option.bind_some _ _).symm.trans H; rw [hy252]; with_reducible exact H2_) | (have H2_ := (Option.bind_some _ _).symm.trans H; with_reducible exact H2_) | with_reducible exact H | (rw [hy252]; exact H) | exact H
                  have Ny252 := Aside0.mk hy252
                  clear hy252
                  by_cases c49 : x12_2.length < 17592186044416
                  · rw [if_pos c49] at H
                    have LMc49 := Aside0.mk c49
                    clear c49
                    obtain ⟨y255, hy255⟩ : ∃ y_ : List Int, y_ = (x12_2 ++ [IntKind.u64.wrap ((x10_2.length : Int))]) := ⟨_, rfl⟩
                    replace H : (some (x10_2, y252, y255, 0)) = some (r1, r2, r3, r4) := by first | (rw [hy255]; with_reducible exact H) | (have H2_ := (Option.bind_some _ _).symm.trans H; rw [hy255]; with_reducible exact H2_) | (have H2_ := (Option.bind_some _ _).symm.trans H; with_reducible exact H2_) | with_reducible exact H | (rw [hy255]; exact H) | exact H
                    have Ny255 := Aside0.mk hy255
                    clear hy255
                    simp only [Option.some.injEq, Prod.mk.injEq] at H
                    obtain ⟨rfl, rfl, rfl, rfl⟩ := H
                    obtain ⟨Ao50, co50, eo50⟩ := Kd.V_slice HO_0.out
                    subst eo50
                    obtain ⟨Ao51, co51, eo51⟩ := Kd.V_slice HO_1.out
                    subst eo51
                    obtain ⟨Ao52, co52, eo52⟩ := Kd.S_slice HO_10.out
                    subst eo52
                    go_wp2_with (first | ((with_reducible refine gate_builtin (b := .append) (xs := #[.tmp 106, .tmp 108]) rfl ?_); (try (refine gate_guard (by rfl) ?_; dsimp only)); at_builtin; refine Kd.R_append (Kd.int .u64) (w0 := w) w.heap.size rfl (.tmp 106) (.tmp 108) 27 37 (.int .u64 0) 8 rfl Tryd.underlying27 info37 rfl (by decide) (by omega) u11 x11_2 (IntKind.u64.wrap ((x10_2.length : Int))) [.int .u64 (IntKind.u64.wrap ((x10_2.length : Int)))] (fun k_ => (w.heap.size ≤ k_) ∧ some k_ ≠ (u12 : Value).ownBlock) (fun _ => False) rfl rfl ?aP (fun _ hk => hk.elim) ?aF ?aO ?aB ?aS ?aL ?_; (case aP => exact rfl); (case aB => exact (by repeat (first | (with_reducible first | exact HB.out | apply below_alloc | apply pw_below_drewN | apply below_drew1) | exact HB.out))); (case aF => exact (fun k_ hk => ⟨(Nat.le_trans (below_size (by repeat (first | (with_reducible first | exact HB.out | apply below_alloc | apply pw_below_drewN | apply below_drew1) | exact HB.out))) hk), Kd.fresh' (Kd.R_lt (by (with_reducible repeat (first | apply Kd.R_alloc | apply Kd.R_drewN | apply Kd.R_drew)); exact HO_12.out)) k_ hk⟩)); (case aO => exact (by (with_reducible repeat (first | apply Kd.R_alloc | apply Kd.R_drewN | apply Kd.R_drew)); exact HO_11.out)); (case aS => exact (below_size (by repeat (first | (with_reducible first | exact HB.out | apply below_alloc | apply pw_below_drewN | apply below_drew1) | exact HB.out)))); (case aL => have := LMc48.out; omega); intro v253 w53 ho hb hg hat; rw [← Ny252.out] at ho; have n0_ := Aside0.mk (Kd.V_afterv (ok := (fun k_ => ((P0_ k_ ∨ P1_ k_) ∨ w.heap.size ≤ k_) ∧ some k_ ≠ (.slice Ao52 x10_2.length co52 : Value).ownBlock ∧ some k_ ≠ (u12 : Value).ownBlock)) (by (with_reducible repeat (first | apply Kd.V_alloc | apply Kd.V_drewN | apply Kd.V_drew)); exact Kd.V_mono HO_0.out (fun _ hk => ⟨⟨hk.1, ⟨hk.2.1, hk.2.2.2⟩⟩, hk.2.2.1⟩)) hg hat); have n1_ := Aside0.mk (Kd.V_afterv (ok := (fun k_ => ((P0_ k_ ∨ P1_ k_) ∨ w.heap.size ≤ k_) ∧ some k_ ≠ (.slice Ao52 x10_2.length co52 : Value).ownBlock ∧ some k_ ≠ (u12 : Value).ownBlock)) (by (with_reducible repeat (first | apply Kd.V_alloc | apply Kd.V_drewN | apply Kd.V_drew)); exact Kd.V_mono HO_1.out (fun _ hk => ⟨⟨hk.1, ⟨hk.2.1, hk.2.2.2⟩⟩, hk.2.2.1⟩)) hg hat); have n2_ := Aside0.mk (Kd.S_over' (by (with_reducible repeat (first | apply Kd.S_alloc | apply Kd.S_drewN | apply Kd.S_drew)); exact HO_10.out) (Kd.R_typed (by (with_reducible repeat (first | apply Kd.R_alloc | apply Kd.R_drewN | apply Kd.R_drew)); exact HO_11.out)) (by decide) hg); have n3_ := Aside0.mk (Kd.R_after (ok := (fun k_ => (w.heap.size ≤ k_))) (by (with_reducible repeat (first | apply Kd.R_alloc | apply Kd.R_drewN | apply Kd.R_drew)); exact HO_12.out) hg hat); have n4_ := Aside0.mk (hb); have n5_ := Aside0.mk (ho); clear HO_0; clear HO_1; clear HO_10; clear HO_12; clear HB; clear HO_11; have HO_0 := n0_; have HO_1 := n1_; have HO_10 := n2_; have HO_12 := n3_; have HB := n4_; have HO254 := n5_; clear n0_ n1_ n2_ n3_ n4_ n5_; clear ho hb hg hat) | ((with_reducible refine gate_builtin (b := .append) (xs := #[.tmp 110, .tmp 112]) rfl ?_); (try (refine gate_guard (by rfl) ?_; dsimp only)); at_builtin; refine Kd.R_append (Kd.int .u64) (w0 := w) w.heap.size rfl (.tmp 110) (.tmp 112) 27 37 (.int .u64 0) 8 rfl Tryd.underlying27 info37 rfl (by decide) (by omega) u12 x12_2 (IntKind.u64.wrap ((x10_2.length : Int))) [.int .u64 (IntKind.u64.wrap ((x10_2.length : Int)))] (fun k_ => (w.heap.size ≤ k_) ∧ some k_ ≠ (v253 : Value).ownBlock) (fun _ => False) rfl rfl ?aP (fun _ hk => hk.elim) ?aF ?aO ?aB ?aS ?aL ?_; (case aP => exact rfl); (case aB => exact (by repeat (first | (with_reducible first | exact HB.out | apply below_alloc | apply pw_below_drewN | apply below_drew1) | exact HB.out))); (case aF => exact (fun k_ hk => ⟨(Nat.le_trans (below_size (by repeat (first | (with_reducible first | exact HB.out | apply below_alloc | apply pw_below_drewN | apply below_drew1) | exact HB.out))) hk), Kd.fresh' (Kd.R_lt (by (with_reducible repeat (first | apply Kd.R_alloc | apply Kd.R_drewN | apply Kd.R_drew)); exact HO254.out)) k_ hk⟩)); (case aO => exact (by (with_reducible repeat (first | apply Kd.R_alloc | apply Kd.R_drewN | apply Kd.R_drew)); exact HO_12.out)); (case aS => exact (below_size (by repeat (first | (with_reducible first | exact HB.out | apply below_alloc | apply pw_below_drewN | apply below_drew1) | exact HB.out)))); (case aL => have := LMc49.out; omega); intro v256 w54 ho hb hg hat; rw [← Ny255.out] at ho; have n0_ := Aside0.mk (Kd.V_afterv (ok := (fun k_ => ((P0_ k_ ∨ P1_ k_) ∨ w.heap.size ≤ k_) ∧ some k_ ≠ (.slice Ao52 x10_2.length co52 : Value).ownBlock ∧ some k_ ≠ (v253 : Value).ownBlock)) (by (with_reducible repeat (first | apply Kd.V_alloc | apply Kd.V_drewN | apply Kd.V_drew)); exact Kd.V_mono HO_0.out (fun _ hk => ⟨⟨hk.1.1, ⟨hk.1.2.1, hk.2⟩⟩, hk.1.2.2⟩)) hg hat); have n1_ := Aside0.mk (Kd.V_afterv (ok := (fun k_ => ((P0_ k_ ∨ P1_ k_) ∨ w.heap.size ≤ k_) ∧ some k_ ≠ (.slice Ao52 x10_2.length co52 : Value).ownBlock ∧ some k_ ≠ (v253 : Value).ownBlock)) (by (with_reducible repeat (first | apply Kd.V_alloc | apply Kd.V_drewN | apply Kd.V_drew)); exact Kd.V_mono HO_1.out (fun _ hk => ⟨⟨hk.1.1, ⟨hk.1.2.1, hk.2⟩⟩, hk.1.2.2⟩)) hg hat); have n2_ := Aside0.mk (Kd.S_over' (by (with_reducible repeat (first | apply Kd.S_alloc | apply Kd.S_drewN | apply Kd.S_drew)); exact HO_10.out) (Kd.R_typed (by (with_reducible repeat (first | apply Kd.R_alloc | apply Kd.R_drewN | apply Kd.R_drew)); exact HO_12.out)) (by decide) hg); have n3_ := Aside0.mk (Kd.R_after (ok := (fun k_ => (w.heap.size ≤ k_))) (by (with_reducible repeat (first | apply Kd.R_alloc | apply Kd.R_drewN | apply Kd.R_drew)); exact HO254.out) hg hat); have n4_ := Aside0.mk (hb); have n5_ := Aside0.mk (ho); clear HO_0; clear HO_1; clear HO_10; clear HO254; clear HB; clear HO_12; have HO_0 := n0_; have HO_1 := n1_; have HO_10 := n2_; have HO254 := n3_; have HB := n4_; have HO257 := n5_; clear n0_ n1_ n2_ n3_ n4_ n5_; clear ho hb hg hat))
                    refine bodyPost_ret (results_list (rs := [.tmp 4, .tmp 5, .tmp 6, .tmp 7]) rfl (by simp) (.tmp (.tmp (.tmp (.tmp .nil))))) rfl ?_
                    exact ⟨_, _, _, by first | rfl | (simp [errW_none, errW_some] <;> rfl) | (simp [*, errW_none, errW_some] <;> rfl), by (with_reducible repeat (first | apply Kd.S_alloc | apply Kd.S_drewN | apply Kd.S_drew)); exact HO_10.out, by (with_reducible repeat (first | apply Kd.R_alloc | apply Kd.R_drewN | apply Kd.R_drew)); exact HO254.out, by (with_reducible repeat (first | apply Kd.R_alloc | apply Kd.R_drewN | apply Kd.R_drew)); exact HO257.out, by repeat (first | (with_reducible first | exact HB.out | apply below_alloc | apply pw_below_drewN | apply below_drew1) | exact HB.out)⟩
                  · rw [if_neg c49] at H
                    exact absurd H (by simp)
                · rw [if_neg c48] at H
                  exact absurd H (by simp)

-- NOT PRINTED: function 3 (gazettelaw14_RecordsParts)

/-! ### producers_number: function 86 -/
def producers_number.f (a0 : Int) : Option (Bool) := if a0 ≥ 1 then (some (decide (a0 ≤ 9223372036854775807))) else (some false)
set_option maxHeartbeats 8000000 in
set_option maxRecDepth 100000 in
theorem producers_number.calls (a0 : Int) (r : Bool) (w : World) (h : producers_number.f a0 = some r) :
    Calls Tryd.prog 86 #[.int .u64 a0] w fun e w' => e = .returned (.bool r) ∧ Drawn0 w w' := by
  have H : (if a0 ≥ 1 then (some (decide (a0 ≤ 9223372036854775807))) else (some false)) = some r := h
  clear h
  by_cases c2 : a0 ≥ 1
  · rw [if_pos c2] at H
    have c2b0 : decide (1 ≤ a0) = true := decide_eq_true c2
    clear c2
    obtain rfl := Option.some.inj H
    go_enter Tryd.func86, Tryd.ntmps86
    go_wp2
    go_ret
    exact ⟨by first | rfl | (simp; done) | (simp [*]; done), by repeat (first | exact Drawn0.refl _ | apply Drawn0.step)⟩
  · rw [if_neg c2] at H
    have c2b0 : decide (1 ≤ a0) = false := decide_eq_false c2
    clear c2
    obtain rfl := Option.some.inj H
    go_enter Tryd.func86, Tryd.ntmps86
    go_wp2
    go_ret
    exact ⟨by first | rfl | (simp; done) | (simp [*]; done), by repeat (first | exact Drawn0.refl _ | apply Drawn0.step)⟩

-- NOT PRINTED: function 72 (producers_Table)

-- NOT PRINTED: function 73 (records_Consumers)

-- NOT PRINTED: function 74 (partfsm_ordered)

-- NOT PRINTED: function 87 (api_Producer_87)

-- NOT PRINTED: function 75 (api_Producer_75)

-- NOT PRINTED: function 88 (api_Consumer_88)

-- NOT PRINTED: function 76 (api_Consumer_76)

-- NOT PRINTED: function 54 (partfsm_Check)

-- NOT PRINTED: function 37 (lineage_usable)

-- NOT PRINTED: function 77 (reflectlite_TypeOf)

-- NOT PRINTED: function 78 (errors_is)

-- NOT PRINTED: function 55 (errors_Is)

-- NOT PRINTED: function 38 (lineage_number)

end Go.Proofs.YtkmffeicgpocgaaDoor.P
