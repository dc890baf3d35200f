-- PRINTED by print.py (a twelfth state) out of the translation. Not trusted: Lean checks it.
import Derived.Test.YtkmffeicgpocgaaDoorPx0
namespace Go.Proofs.YtkmffeicgpocgaaDoor.P
open Go.RowKit Go.Proofs.YtkmffeicgpocgaaDoorW.PrintWords Go.Proofs.YtkmffeicgpocgaaDoorW.PrintLast Go.Proofs.YtkmffeicgpocgaaDoorW.PrintMore
attribute [local go_sem] max2_int min2_int max_two min_two max_three min_three max_four min_four   -- for this text's walks alone
set_option linter.unusedVariables false
set_option linter.unusedSimpArgs false

/-! ### gazetteref14_Same: function 9 -/
def gazetteref14_Same.l0 : Nat → List (S48) → List (S48) → Int → Option (Bool)
  | 0, _, _, _ => none
  | k + 1, x0, x1, x5 => if x5 < (x0.length : Int) then (if 0 ≤ x5 then (if x5 < (x1.length : Int) then (if ((rd_T48 x0 x5).f0) = ((rd_T48 x1 x5).f0) then (if ((rd_T48 x0 x5).f1).toList = ((rd_T48 x1 x5).f1).toList then (if (strOfNums ((rd_T48 x0 x5).f2)).toList = (strOfNums ((rd_T48 x1 x5).f2)).toList then (if ((rd_T48 x0 x5).f3) = ((rd_T48 x1 x5).f3) then (if ((rd_T48 x0 x5).f4) = ((rd_T48 x1 x5).f4) then (gazetteref14_Same.l0 k x0 x1 (wrap64 (x5 + 1))) else (some false)) else (some false)) else (some false)) else (some false)) else (some false)) else (none)) else (none)) else (some true)
def gazetteref14_Same.f (k : Nat) (l0 : List (S48)) (l1 : List (S48)) : Option (Bool) := if (l0.length : Int) = (l1.length : Int) then (gazetteref14_Same.l0 k l0 l1 0) else (some false)
theorem gazetteref14_Same.mono_l : ∀ k, (∀ y0 y1 y2, LeO (gazetteref14_Same.l0 k y0 y1 y2) (gazetteref14_Same.l0 (k + 1) y0 y1 y2))
  | 0 => fun _ _ _ r h => by simp [gazetteref14_Same.l0] at h
  | k + 1 => by
    have ih0 := gazetteref14_Same.mono_l k
    · intro y0 y1 y2
      unfold gazetteref14_Same.l0
      repeat' first
      | (with_reducible exact ih0 _ _ _)
      | (with_reducible exact LeO.refl _)
      | (with_reducible exact LeO.none _)
      | (with_reducible refine LeO.ite ?_ ?_)
      | (with_reducible refine LeO.bind ?_ (fun _ => ?_))
      | exact ih0 _ _ _
      | exact LeO.none _
      | refine LeO.ite ?_ ?_
      | refine LeO.bind ?_ (fun _ => ?_)
theorem gazetteref14_Same.mono : ∀ a0 a1 k, LeO (gazetteref14_Same.f k a0 a1) (gazetteref14_Same.f (k + 1) a0 a1) := by
  intro a0 a1 k
  have ih0 := gazetteref14_Same.mono_l k
  unfold gazetteref14_Same.f
  repeat' first
      | (with_reducible exact ih0 _ _ _)
      | (with_reducible exact LeO.refl _)
      | (with_reducible exact LeO.none _)
      | (with_reducible refine LeO.ite ?_ ?_)
      | (with_reducible refine LeO.bind ?_ (fun _ => ?_))
      | exact ih0 _ _ _
      | exact LeO.none _
      | refine LeO.ite ?_ ?_
      | refine LeO.bind ?_ (fun _ => ?_)
set_option maxHeartbeats 8000000 in
set_option maxRecDepth 100000 in
theorem gazetteref14_Same.calls (k : Nat) (A0 : Option Addr) (c0 : Nat) (l0 : List (S48)) (A1 : Option Addr) (c1 : Nat) (l1 : List (S48)) (r : Bool) (w : World) (hr0 : Kd.C k48 w A0 l0.length l0) (hc0 : l0.length ≤ c0) (hr1 : Kd.C k48 w A1 l1.length l1) (hc1 : l1.length ≤ c1) (h : gazetteref14_Same.f k l0 l1 = some r) :
    Calls Tryd.prog 9 #[.slice A0 l0.length c0, .slice A1 l1.length c1] w fun e w' => e = .returned (.bool r) ∧ Drawn0 w w' := by
  have HR0 := Aside0.mk hr0
  have HC0 := Aside0.mk hc0
  clear hr0 hc0
  have HR1 := Aside0.mk hr1
  have HC1 := Aside0.mk hc1
  clear hr1 hc1
  have H : (if (l0.length : Int) = (l1.length : Int) then (gazetteref14_Same.l0 k l0 l1 0) else (some false)) = some r := h
  clear h
  by_cases c3 : (l0.length : Int) = (l1.length : Int)
  · rw [if_pos c3] at H
    have c3b0 : ((l0.length : Int) == (l1.length : Int)) = true := beq_iff_eq.mpr c3
    have c3b1 : ((l0.length : Int) != (l1.length : Int)) = false := bne_eq_false_iff_eq.mpr c3
    have c3b2 : (l0.length == l1.length) = true := by first | simpa using c3 | (simp at c3 ⊢; omega)
    clear c3
    have H' := Aside0.mk H
    clear H
    go_enter Tryd.func9, Tryd.ntmps9
    go_wp2
    repeat (go_quiet (fail); try go_wp2)
    go_loopg [5] k (fun kq v5 w' => ∃ (x5_1 : Int), v5 = .int .i64 x5_1 ∧ Aside0 (gazetteref14_Same.l0 kq l0 l1 x5_1 = some r) ∧ Aside0 (kq ≤ k) ∧ Drawn0 w w')
    case atStart => exact ⟨(0), (by first | rfl | (simp; done) | (simp [*]; done)), H', ⟨Nat.le_refl _⟩, by repeat (first | exact Drawn0.refl _ | apply Drawn0.step)⟩
    case round =>
      clear H'
      try clear c1
      try clear p2
      try clear c3
      try clear c3b0
      try clear c3b1
      try clear c3b2
      obtain ⟨x5_1, rfl, HA, HK1, ⟨m1, rfl⟩⟩ := hrel
      cases gk with
      | zero => exact absurd HA.out (by simp [gazetteref14_Same.l0])
      | succ k1 =>
        have H := HA.out
        clear HA
        simp only [gazetteref14_Same.l0] at H
        by_cases c4 : x5_1 < (l0.length : Int)
        · rw [if_pos c4] at H
          have c4b0 : decide (x5_1 < (l0.length : Int)) = true := decide_eq_true c4
          clear c4
          by_cases c5 : 0 ≤ x5_1
          · rw [if_pos c5] at H
            have c5b0 : decide (0 ≤ x5_1) = true := decide_eq_true c5
            clear c5
            by_cases c6 : x5_1 < (l1.length : Int)
            · rw [if_pos c6] at H
              have c6b0 : decide (x5_1 < (l1.length : Int)) = true := decide_eq_true c6
              clear c6
              by_cases c7 : ((rd_T48 l0 x5_1).f0) = ((rd_T48 l1 x5_1).f0)
              · rw [if_pos c7] at H
                have c7b0 : (((rd_T48 l0 x5_1).f0) == ((rd_T48 l1 x5_1).f0)) = true := beq_iff_eq.mpr c7
                have c7b1 : (((rd_T48 l0 x5_1).f0) != ((rd_T48 l1 x5_1).f0)) = false := bne_eq_false_iff_eq.mpr c7
                clear c7
                by_cases c8 : ((rd_T48 l0 x5_1).f1).toList = ((rd_T48 l1 x5_1).f1).toList
                · rw [if_pos c8] at H
                  have c8b0 : (((rd_T48 l0 x5_1).f1).toList == ((rd_T48 l1 x5_1).f1).toList) = true := beq_iff_eq.mpr c8
                  have c8b1 : (((rd_T48 l0 x5_1).f1).toList != ((rd_T48 l1 x5_1).f1).toList) = false := bne_eq_false_iff_eq.mpr c8
                  clear c8
                  by_cases c9 : (strOfNums ((rd_T48 l0 x5_1).f2)).toList = (strOfNums ((rd_T48 l1 x5_1).f2)).toList
                  · rw [if_pos c9] at H
                    have c9b0 : ((strOfNums ((rd_T48 l0 x5_1).f2)).toList == (strOfNums ((rd_T48 l1 x5_1).f2)).toList) = true := beq_iff_eq.mpr c9
                    have c9b1 : ((strOfNums ((rd_T48 l0 x5_1).f2)).toList != (strOfNums ((rd_T48 l1 x5_1).f2)).toList) = false := bne_eq_false_iff_eq.mpr c9
                    clear c9
                    by_cases c10 : ((rd_T48 l0 x5_1).f3) = ((rd_T48 l1 x5_1).f3)
                    · rw [if_pos c10] at H
                      have c10b0 : (((rd_T48 l0 x5_1).f3) == ((rd_T48 l1 x5_1).f3)) = true := beq_iff_eq.mpr c10
                      have c10b1 : (((rd_T48 l0 x5_1).f3) != ((rd_T48 l1 x5_1).f3)) = false := bne_eq_false_iff_eq.mpr c10
                      clear c10
                      by_cases c11 : ((rd_T48 l0 x5_1).f4) = ((rd_T48 l1 x5_1).f4)
                      · rw [if_pos c11] at H
                        have c11b0 : (((rd_T48 l0 x5_1).f4) == ((rd_T48 l1 x5_1).f4)) = true := beq_iff_eq.mpr c11
                        have c11b1 : (((rd_T48 l0 x5_1).f4) != ((rd_T48 l1 x5_1).f4)) = false := bne_eq_false_iff_eq.mpr c11
                        clear c11
                        have H' := Aside0.mk H
                        clear H
                        have p225 : 0 ≤ (x5_1 : Int) := of_decide_eq_true (by first | (with_reducible assumption) | assumption)
                        have q225 : x5_1 < (l0.length : Int) := of_decide_eq_true (by first | (with_reducible assumption) | assumption)
                        obtain ⟨ad225, A225_2, c225_2, e225, hx225_0, hx225_1, hx225_2, hx225_3, hx225_4, hl225_2, hi225_2⟩ := at_T48 HR0.out x5_1 p225 q225
                        cases e225
                        have HR225_2 := Aside0.mk hi225_2
                        have HC225_2 := Aside0.mk hl225_2
                        clear hi225_2 hl225_2
                        replace p225 := eq_true p225
                        replace q225 := eq_true q225
                        have p226 : 0 ≤ (x5_1 : Int) := of_decide_eq_true (by first | (with_reducible assumption) | assumption)
                        have q226 : x5_1 < (l1.length : Int) := of_decide_eq_true (by first | (with_reducible assumption) | assumption)
                        obtain ⟨ad226, A226_2, c226_2, e226, hx226_0, hx226_1, hx226_2, hx226_3, hx226_4, hl226_2, hi226_2⟩ := at_T48 HR1.out x5_1 p226 q226
                        cases e226
                        have HR226_2 := Aside0.mk hi226_2
                        have HC226_2 := Aside0.mk hl226_2
                        clear hi226_2 hl226_2
                        replace p226 := eq_true p226
                        replace q226 := eq_true q226
                        have p227 : 0 ≤ (x5_1 : Int) := of_decide_eq_true (by first | (with_reducible assumption) | assumption)
                        have q227 : x5_1 < (l0.length : Int) := of_decide_eq_true (by first | (with_reducible assumption) | assumption)
                        obtain ⟨ad227, A227_2, c227_2, e227, hx227_0, hx227_1, hx227_2, hx227_3, hx227_4, hl227_2, hi227_2⟩ := at_T48 HR0.out x5_1 p227 q227
                        obtain rfl : ad225 = ad227 := (by injection e227)
                        have HR227_2 := Aside0.mk hi227_2
                        have HC227_2 := Aside0.mk hl227_2
                        clear hi227_2 hl227_2
                        replace p227 := eq_true p227
                        replace q227 := eq_true q227
                        have ea_ := Option.some.inj (hx225_2.symm.trans hx227_2)
                        injection ea_ with ea_ en_ ec_
                        subst ea_
                        subst ec_
                        clear en_
                        have p228 : 0 ≤ (x5_1 : Int) := of_decide_eq_true (by first | (with_reducible assumption) | assumption)
                        have q228 : x5_1 < (l1.length : Int) := of_decide_eq_true (by first | (with_reducible assumption) | assumption)
                        obtain ⟨ad228, A228_2, c228_2, e228, hx228_0, hx228_1, hx228_2, hx228_3, hx228_4, hl228_2, hi228_2⟩ := at_T48 HR1.out x5_1 p228 q228
                        obtain rfl : ad226 = ad228 := (by injection e228)
                        have HR228_2 := Aside0.mk hi228_2
                        have HC228_2 := Aside0.mk hl228_2
                        clear hi228_2 hl228_2
                        replace p228 := eq_true p228
                        replace q228 := eq_true q228
                        have ea_ := Option.some.inj (hx226_2.symm.trans hx228_2)
                        injection ea_ with ea_ en_ ec_
                        subst ea_
                        subst ec_
                        clear en_
                        have p229 : 0 ≤ (x5_1 : Int) := of_decide_eq_true (by first | (with_reducible assumption) | assumption)
                        have q229 : x5_1 < (l0.length : Int) := of_decide_eq_true (by first | (with_reducible assumption) | assumption)
                        obtain ⟨ad229, A229_2, c229_2, e229, hx229_0, hx229_1, hx229_2, hx229_3, hx229_4, hl229_2, hi229_2⟩ := at_T48 HR0.out x5_1 p229 q229
                        obtain rfl : ad225 = ad229 := (by injection e229)
                        have HR229_2 := Aside0.mk hi229_2
                        have HC229_2 := Aside0.mk hl229_2
                        clear hi229_2 hl229_2
                        replace p229 := eq_true p229
                        replace q229 := eq_true q229
                        have ea_ := Option.some.inj (hx225_2.symm.trans hx229_2)
                        injection ea_ with ea_ en_ ec_
                        subst ea_
                        subst ec_
                        clear en_
                        have hcv12 := Kd.C_string (P := Tryd.prog) (A := A225_2) (c := c225_2) Tryd.underlying42 Tryd.underlying5 Tryd.underlying9 HR229_2.out
                        have hcw13 := fun (n_ : Nat) => Kd.C_string (P := Tryd.prog) (A := A225_2) (c := c225_2) Tryd.underlying42 Tryd.underlying5 Tryd.underlying9 (Kd.C_drewN HR229_2.out n_)
                        have p230 : 0 ≤ (x5_1 : Int) := of_decide_eq_true (by first | (with_reducible assumption) | assumption)
                        have q230 : x5_1 < (l1.length : Int) := of_decide_eq_true (by first | (with_reducible assumption) | assumption)
                        obtain ⟨ad230, A230_2, c230_2, e230, hx230_0, hx230_1, hx230_2, hx230_3, hx230_4, hl230_2, hi230_2⟩ := at_T48 HR1.out x5_1 p230 q230
                        obtain rfl : ad226 = ad230 := (by injection e230)
                        have HR230_2 := Aside0.mk hi230_2
                        have HC230_2 := Aside0.mk hl230_2
                        clear hi230_2 hl230_2
                        replace p230 := eq_true p230
                        replace q230 := eq_true q230
                        have ea_ := Option.some.inj (hx226_2.symm.trans hx230_2)
                        injection ea_ with ea_ en_ ec_
                        subst ea_
                        subst ec_
                        clear en_
                        have hcv14 := Kd.C_string (P := Tryd.prog) (A := A226_2) (c := c226_2) Tryd.underlying42 Tryd.underlying5 Tryd.underlying9 HR230_2.out
                        have hcw15 := fun (n_ : Nat) => Kd.C_string (P := Tryd.prog) (A := A226_2) (c := c226_2) Tryd.underlying42 Tryd.underlying5 Tryd.underlying9 (Kd.C_drewN HR230_2.out n_)
                        have p231 : 0 ≤ (x5_1 : Int) := of_decide_eq_true (by first | (with_reducible assumption) | assumption)
                        have q231 : x5_1 < (l0.length : Int) := of_decide_eq_true (by first | (with_reducible assumption) | assumption)
                        obtain ⟨ad231, A231_2, c231_2, e231, hx231_0, hx231_1, hx231_2, hx231_3, hx231_4, hl231_2, hi231_2⟩ := at_T48 HR0.out x5_1 p231 q231
                        obtain rfl : ad225 = ad231 := (by injection e231)
                        have HR231_2 := Aside0.mk hi231_2
                        have HC231_2 := Aside0.mk hl231_2
                        clear hi231_2 hl231_2
                        replace p231 := eq_true p231
                        replace q231 := eq_true q231
                        have ea_ := Option.some.inj (hx225_2.symm.trans hx231_2)
                        injection ea_ with ea_ en_ ec_
                        subst ea_
                        subst ec_
                        clear en_
                        have p232 : 0 ≤ (x5_1 : Int) := of_decide_eq_true (by first | (with_reducible assumption) | assumption)
                        have q232 : x5_1 < (l1.length : Int) := of_decide_eq_true (by first | (with_reducible assumption) | assumption)
                        obtain ⟨ad232, A232_2, c232_2, e232, hx232_0, hx232_1, hx232_2, hx232_3, hx232_4, hl232_2, hi232_2⟩ := at_T48 HR1.out x5_1 p232 q232
                        obtain rfl : ad226 = ad232 := (by injection e232)
                        have HR232_2 := Aside0.mk hi232_2
                        have HC232_2 := Aside0.mk hl232_2
                        clear hi232_2 hl232_2
                        replace p232 := eq_true p232
                        replace q232 := eq_true q232
                        have ea_ := Option.some.inj (hx226_2.symm.trans hx232_2)
                        injection ea_ with ea_ en_ ec_
                        subst ea_
                        subst ec_
                        clear en_
                        have p233 : 0 ≤ (x5_1 : Int) := of_decide_eq_true (by first | (with_reducible assumption) | assumption)
                        have q233 : x5_1 < (l0.length : Int) := of_decide_eq_true (by first | (with_reducible assumption) | assumption)
                        obtain ⟨ad233, A233_2, c233_2, e233, hx233_0, hx233_1, hx233_2, hx233_3, hx233_4, hl233_2, hi233_2⟩ := at_T48 HR0.out x5_1 p233 q233
                        obtain rfl : ad225 = ad233 := (by injection e233)
                        have HR233_2 := Aside0.mk hi233_2
                        have HC233_2 := Aside0.mk hl233_2
                        clear hi233_2 hl233_2
                        replace p233 := eq_true p233
                        replace q233 := eq_true q233
                        have ea_ := Option.some.inj (hx225_2.symm.trans hx233_2)
                        injection ea_ with ea_ en_ ec_
                        subst ea_
                        subst ec_
                        clear en_
                        have p234 : 0 ≤ (x5_1 : Int) := of_decide_eq_true (by first | (with_reducible assumption) | assumption)
                        have q234 : x5_1 < (l1.length : Int) := of_decide_eq_true (by first | (with_reducible assumption) | assumption)
                        obtain ⟨ad234, A234_2, c234_2, e234, hx234_0, hx234_1, hx234_2, hx234_3, hx234_4, hl234_2, hi234_2⟩ := at_T48 HR1.out x5_1 p234 q234
                        obtain rfl : ad226 = ad234 := (by injection e234)
                        have HR234_2 := Aside0.mk hi234_2
                        have HC234_2 := Aside0.mk hl234_2
                        clear hi234_2 hl234_2
                        replace p234 := eq_true p234
                        replace q234 := eq_true q234
                        have ea_ := Option.some.inj (hx226_2.symm.trans hx234_2)
                        injection ea_ with ea_ en_ ec_
                        subst ea_
                        subst ec_
                        clear en_
                        go_wp2
                        repeat (go_quiet (fail); try go_wp2)
                        go_roundg k1
                        case measure => have := HK1.out; omega
                        case rel => exact ⟨(wrap64 (x5_1 + 1)), (by first | rfl | (simp; done) | (simp [*]; done)), H', ⟨by have := HK1.out; omega⟩, by repeat (first | exact Drawn0.refl _ | apply Drawn0.step)⟩
                      · rw [if_neg c11] at H
                        have c11b0 : (((rd_T48 l0 x5_1).f4) == ((rd_T48 l1 x5_1).f4)) = false := beq_eq_false_iff_ne.mpr c11
                        have c11b1 : (((rd_T48 l0 x5_1).f4) != ((rd_T48 l1 x5_1).f4)) = true := bne_iff_ne.mpr c11
                        obtain rfl := Option.some.inj H
                        have p225 : 0 ≤ (x5_1 : Int) := of_decide_eq_true (by first | (with_reducible assumption) | assumption)
                        have q225 : x5_1 < (l0.length : Int) := of_decide_eq_true (by first | (with_reducible assumption) | assumption)
                        obtain ⟨ad225, A225_2, c225_2, e225, hx225_0, hx225_1, hx225_2, hx225_3, hx225_4, hl225_2, hi225_2⟩ := at_T48 HR0.out x5_1 p225 q225
                        cases e225
                        have HR225_2 := Aside0.mk hi225_2
                        have HC225_2 := Aside0.mk hl225_2
                        clear hi225_2 hl225_2
                        replace p225 := eq_true p225
                        replace q225 := eq_true q225
                        have p226 : 0 ≤ (x5_1 : Int) := of_decide_eq_true (by first | (with_reducible assumption) | assumption)
                        have q226 : x5_1 < (l1.length : Int) := of_decide_eq_true (by first | (with_reducible assumption) | assumption)
                        obtain ⟨ad226, A226_2, c226_2, e226, hx226_0, hx226_1, hx226_2, hx226_3, hx226_4, hl226_2, hi226_2⟩ := at_T48 HR1.out x5_1 p226 q226
                        cases e226
                        have HR226_2 := Aside0.mk hi226_2
                        have HC226_2 := Aside0.mk hl226_2
                        clear hi226_2 hl226_2
                        replace p226 := eq_true p226
                        replace q226 := eq_true q226
                        have p227 : 0 ≤ (x5_1 : Int) := of_decide_eq_true (by first | (with_reducible assumption) | assumption)
                        have q227 : x5_1 < (l0.length : Int) := of_decide_eq_true (by first | (with_reducible assumption) | assumption)
                        obtain ⟨ad227, A227_2, c227_2, e227, hx227_0, hx227_1, hx227_2, hx227_3, hx227_4, hl227_2, hi227_2⟩ := at_T48 HR0.out x5_1 p227 q227
                        obtain rfl : ad225 = ad227 := (by injection e227)
                        have HR227_2 := Aside0.mk hi227_2
                        have HC227_2 := Aside0.mk hl227_2
                        clear hi227_2 hl227_2
                        replace p227 := eq_true p227
                        replace q227 := eq_true q227
                        have ea_ := Option.some.inj (hx225_2.symm.trans hx227_2)
                        injection ea_ with ea_ en_ ec_
                        subst ea_
                        subst ec_
                        clear en_
                        have p228 : 0 ≤ (x5_1 : Int) := of_decide_eq_true (by first | (with_reducible assumption) | assumption)
                        have q228 : x5_1 < (l1.length : Int) := of_decide_eq_true (by first | (with_reducible assumption) | assumption)
                        obtain ⟨ad228, A228_2, c228_2, e228, hx228_0, hx228_1, hx228_2, hx228_3, hx228_4, hl228_2, hi228_2⟩ := at_T48 HR1.out x5_1 p228 q228
                        obtain rfl : ad226 = ad228 := (by injection e228)
                        have HR228_2 := Aside0.mk hi228_2
                        have HC228_2 := Aside0.mk hl228_2
                        clear hi228_2 hl228_2
                        replace p228 := eq_true p228
                        replace q228 := eq_true q228
                        have ea_ := Option.some.inj (hx226_2.symm.trans hx228_2)
                        injection ea_ with ea_ en_ ec_
                        subst ea_
                        subst ec_
                        clear en_
                        have p229 : 0 ≤ (x5_1 : Int) := of_decide_eq_true (by first | (with_reducible assumption) | assumption)
                        have q229 : x5_1 < (l0.length : Int) := of_decide_eq_true (by first | (with_reducible assumption) | assumption)
                        obtain ⟨ad229, A229_2, c229_2, e229, hx229_0, hx229_1, hx229_2, hx229_3, hx229_4, hl229_2, hi229_2⟩ := at_T48 HR0.out x5_1 p229 q229
                        obtain rfl : ad225 = ad229 := (by injection e229)
                        have HR229_2 := Aside0.mk hi229_2
                        have HC229_2 := Aside0.mk hl229_2
                        clear hi229_2 hl229_2
                        replace p229 := eq_true p229
                        replace q229 := eq_true q229
                        have ea_ := Option.some.inj (hx225_2.symm.trans hx229_2)
                        injection ea_ with ea_ en_ ec_
                        subst ea_
                        subst ec_
                        clear en_
                        have hcv16 := Kd.C_string (P := Tryd.prog) (A := A225_2) (c := c225_2) Tryd.underlying42 Tryd.underlying5 Tryd.underlying9 HR229_2.out
                        have hcw17 := fun (n_ : Nat) => Kd.C_string (P := Tryd.prog) (A := A225_2) (c := c225_2) Tryd.underlying42 Tryd.underlying5 Tryd.underlying9 (Kd.C_drewN HR229_2.out n_)
                        have p230 : 0 ≤ (x5_1 : Int) := of_decide_eq_true (by first | (with_reducible assumption) | assumption)
                        have q230 : x5_1 < (l1.length : Int) := of_decide_eq_true (by first | (with_reducible assumption) | assumption)
                        obtain ⟨ad230, A230_2, c230_2, e230, hx230_0, hx230_1, hx230_2, hx230_3, hx230_4, hl230_2, hi230_2⟩ := at_T48 HR1.out x5_1 p230 q230
                        obtain rfl : ad226 = ad230 := (by injection e230)
                        have HR230_2 := Aside0.mk hi230_2
                        have HC230_2 := Aside0.mk hl230_2
                        clear hi230_2 hl230_2
                        replace p230 := eq_true p230
                        replace q230 := eq_true q230
                        have ea_ := Option.some.inj (hx226_2.symm.trans hx230_2)
                        injection ea_ with ea_ en_ ec_
                        subst ea_
                        subst ec_
                        clear en_
                        have hcv18 := Kd.C_string (P := Tryd.prog) (A := A226_2) (c := c226_2) Tryd.underlying42 Tryd.underlying5 Tryd.underlying9 HR230_2.out
                        have hcw19 := fun (n_ : Nat) => Kd.C_string (P := Tryd.prog) (A := A226_2) (c := c226_2) Tryd.underlying42 Tryd.underlying5 Tryd.underlying9 (Kd.C_drewN HR230_2.out n_)
                        have p231 : 0 ≤ (x5_1 : Int) := of_decide_eq_true (by first | (with_reducible assumption) | assumption)
                        have q231 : x5_1 < (l0.length : Int) := of_decide_eq_true (by first | (with_reducible assumption) | assumption)
                        obtain ⟨ad231, A231_2, c231_2, e231, hx231_0, hx231_1, hx231_2, hx231_3, hx231_4, hl231_2, hi231_2⟩ := at_T48 HR0.out x5_1 p231 q231
                        obtain rfl : ad225 = ad231 := (by injection e231)
                        have HR231_2 := Aside0.mk hi231_2
                        have HC231_2 := Aside0.mk hl231_2
                        clear hi231_2 hl231_2
                        replace p231 := eq_true p231
                        replace q231 := eq_true q231
                        have ea_ := Option.some.inj (hx225_2.symm.trans hx231_2)
                        injection ea_ with ea_ en_ ec_
                        subst ea_
                        subst ec_
                        clear en_
                        have p232 : 0 ≤ (x5_1 : Int) := of_decide_eq_true (by first | (with_reducible assumption) | assumption)
                        have q232 : x5_1 < (l1.length : Int) := of_decide_eq_true (by first | (with_reducible assumption) | assumption)
                        obtain ⟨ad232, A232_2, c232_2, e232, hx232_0, hx232_1, hx232_2, hx232_3, hx232_4, hl232_2, hi232_2⟩ := at_T48 HR1.out x5_1 p232 q232
                        obtain rfl : ad226 = ad232 := (by injection e232)
                        have HR232_2 := Aside0.mk hi232_2
                        have HC232_2 := Aside0.mk hl232_2
                        clear hi232_2 hl232_2
                        replace p232 := eq_true p232
                        replace q232 := eq_true q232
                        have ea_ := Option.some.inj (hx226_2.symm.trans hx232_2)
                        injection ea_ with ea_ en_ ec_
                        subst ea_
                        subst ec_
                        clear en_
                        have p233 : 0 ≤ (x5_1 : Int) := of_decide_eq_true (by first | (with_reducible assumption) | assumption)
                        have q233 : x5_1 < (l0.length : Int) := of_decide_eq_true (by first | (with_reducible assumption) | assumption)
                        obtain ⟨ad233, A233_2, c233_2, e233, hx233_0, hx233_1, hx233_2, hx233_3, hx233_4, hl233_2, hi233_2⟩ := at_T48 HR0.out x5_1 p233 q233
                        obtain rfl : ad225 = ad233 := (by injection e233)
                        have HR233_2 := Aside0.mk hi233_2
                        have HC233_2 := Aside0.mk hl233_2
                        clear hi233_2 hl233_2
                        replace p233 := eq_true p233
                        replace q233 := eq_true q233
                        have ea_ := Option.some.inj (hx225_2.symm.trans hx233_2)
                        injection ea_ with ea_ en_ ec_
                        subst ea_
                        subst ec_
                        clear en_
                        have p234 : 0 ≤ (x5_1 : Int) := of_decide_eq_true (by first | (with_reducible assumption) | assumption)
                        have q234 : x5_1 < (l1.length : Int) := of_decide_eq_true (by first | (with_reducible assumption) | assumption)
                        obtain ⟨ad234, A234_2, c234_2, e234, hx234_0, hx234_1, hx234_2, hx234_3, hx234_4, hl234_2, hi234_2⟩ := at_T48 HR1.out x5_1 p234 q234
                        obtain rfl : ad226 = ad234 := (by injection e234)
                        have HR234_2 := Aside0.mk hi234_2
                        have HC234_2 := Aside0.mk hl234_2
                        clear hi234_2 hl234_2
                        replace p234 := eq_true p234
                        replace q234 := eq_true q234
                        have ea_ := Option.some.inj (hx226_2.symm.trans hx234_2)
                        injection ea_ with ea_ en_ ec_
                        subst ea_
                        subst ec_
                        clear en_
                        go_wp2
                        repeat (go_quiet (fail); try go_wp2)
                        go_ret
                        exact ⟨by first | rfl | (simp; done) | (simp [*]; done), by repeat (first | exact Drawn0.refl _ | apply Drawn0.step)⟩
                    · rw [if_neg c10] at H
                      have c10b0 : (((rd_T48 l0 x5_1).f3) == ((rd_T48 l1 x5_1).f3)) = false := beq_eq_false_iff_ne.mpr c10
                      have c10b1 : (((rd_T48 l0 x5_1).f3) != ((rd_T48 l1 x5_1).f3)) = true := bne_iff_ne.mpr c10
                      obtain rfl := Option.some.inj H
                      have p225 : 0 ≤ (x5_1 : Int) := of_decide_eq_true (by first | (with_reducible assumption) | assumption)
                      have q225 : x5_1 < (l0.length : Int) := of_decide_eq_true (by first | (with_reducible assumption) | assumption)
                      obtain ⟨ad225, A225_2, c225_2, e225, hx225_0, hx225_1, hx225_2, hx225_3, hx225_4, hl225_2, hi225_2⟩ := at_T48 HR0.out x5_1 p225 q225
                      cases e225
                      have HR225_2 := Aside0.mk hi225_2
                      have HC225_2 := Aside0.mk hl225_2
                      clear hi225_2 hl225_2
                      replace p225 := eq_true p225
                      replace q225 := eq_true q225
                      have p226 : 0 ≤ (x5_1 : Int) := of_decide_eq_true (by first | (with_reducible assumption) | assumption)
                      have q226 : x5_1 < (l1.length : Int) := of_decide_eq_true (by first | (with_reducible assumption) | assumption)
                      obtain ⟨ad226, A226_2, c226_2, e226, hx226_0, hx226_1, hx226_2, hx226_3, hx226_4, hl226_2, hi226_2⟩ := at_T48 HR1.out x5_1 p226 q226
                      cases e226
                      have HR226_2 := Aside0.mk hi226_2
                      have HC226_2 := Aside0.mk hl226_2
                      clear hi226_2 hl226_2
                      replace p226 := eq_true p226
                      replace q226 := eq_true q226
                      have p227 : 0 ≤ (x5_1 : Int) := of_decide_eq_true (by first | (with_reducible assumption) | assumption)
                      have q227 : x5_1 < (l0.length : Int) := of_decide_eq_true (by first | (with_reducible assumption) | assumption)
                      obtain ⟨ad227, A227_2, c227_2, e227, hx227_0, hx227_1, hx227_2, hx227_3, hx227_4, hl227_2, hi227_2⟩ := at_T48 HR0.out x5_1 p227 q227
                      obtain rfl : ad225 = ad227 := (by injection e227)
                      have HR227_2 := Aside0.mk hi227_2
                      have HC227_2 := Aside0.mk hl227_2
                      clear hi227_2 hl227_2
                      replace p227 := eq_true p227
                      replace q227 := eq_true q227
                      have ea_ := Option.some.inj (hx225_2.symm.trans hx227_2)
                      injection ea_ with ea_ en_ ec_
                      subst ea_
                      subst ec_
                      clear en_
                      have p228 : 0 ≤ (x5_1 : Int) := of_decide_eq_true (by first | (with_reducible assumption) | assumption)
                      have q228 : x5_1 < (l1.length : Int) := of_decide_eq_true (by first | (with_reducible assumption) | assumption)
                      obtain ⟨ad228, A228_2, c228_2, e228, hx228_0, hx228_1, hx228_2, hx228_3, hx228_4, hl228_2, hi228_2⟩ := at_T48 HR1.out x5_1 p228 q228
                      obtain rfl : ad226 = ad228 := (by injection e228)
                      have HR228_2 := Aside0.mk hi228_2
                      have HC228_2 := Aside0.mk hl228_2
                      clear hi228_2 hl228_2
                      replace p228 := eq_true p228
                      replace q228 := eq_true q228
                      have ea_ := Option.some.inj (hx226_2.symm.trans hx228_2)
                      injection ea_ with ea_ en_ ec_
                      subst ea_
                      subst ec_
                      clear en_
                      have p229 : 0 ≤ (x5_1 : Int) := of_decide_eq_true (by first | (with_reducible assumption) | assumption)
                      have q229 : x5_1 < (l0.length : Int) := of_decide_eq_true (by first | (with_reducible assumption) | assumption)
                      obtain ⟨ad229, A229_2, c229_2, e229, hx229_0, hx229_1, hx229_2, hx229_3, hx229_4, hl229_2, hi229_2⟩ := at_T48 HR0.out x5_1 p229 q229
                      obtain rfl : ad225 = ad229 := (by injection e229)
                      have HR229_2 := Aside0.mk hi229_2
                      have HC229_2 := Aside0.mk hl229_2
                      clear hi229_2 hl229_2
                      replace p229 := eq_true p229
                      replace q229 := eq_true q229
                      have ea_ := Option.some.inj (hx225_2.symm.trans hx229_2)
                      injection ea_ with ea_ en_ ec_
                      subst ea_
                      subst ec_
                      clear en_
                      have hcv20 := Kd.C_string (P := Tryd.prog) (A := A225_2) (c := c225_2) Tryd.underlying42 Tryd.underlying5 Tryd.underlying9 HR229_2.out
                      have hcw21 := fun (n_ : Nat) => Kd.C_string (P := Tryd.prog) (A := A225_2) (c := c225_2) Tryd.underlying42 Tryd.underlying5 Tryd.underlying9 (Kd.C_drewN HR229_2.out n_)
                      have p230 : 0 ≤ (x5_1 : Int) := of_decide_eq_true (by first | (with_reducible assumption) | assumption)
                      have q230 : x5_1 < (l1.length : Int) := of_decide_eq_true (by first | (with_reducible assumption) | assumption)
                      obtain ⟨ad230, A230_2, c230_2, e230, hx230_0, hx230_1, hx230_2, hx230_3, hx230_4, hl230_2, hi230_2⟩ := at_T48 HR1.out x5_1 p230 q230
                      obtain rfl : ad226 = ad230 := (by injection e230)
                      have HR230_2 := Aside0.mk hi230_2
                      have HC230_2 := Aside0.mk hl230_2
                      clear hi230_2 hl230_2
                      replace p230 := eq_true p230
                      replace q230 := eq_true q230
                      have ea_ := Option.some.inj (hx226_2.symm.trans hx230_2)
                      injection ea_ with ea_ en_ ec_
                      subst ea_
                      subst ec_
                      clear en_
                      have hcv22 := Kd.C_string (P := Tryd.prog) (A := A226_2) (c := c226_2) Tryd.underlying42 Tryd.underlying5 Tryd.underlying9 HR230_2.out
                      have hcw23 := fun (n_ : Nat) => Kd.C_string (P := Tryd.prog) (A := A226_2) (c := c226_2) Tryd.underlying42 Tryd.underlying5 Tryd.underlying9 (Kd.C_drewN HR230_2.out n_)
                      have p231 : 0 ≤ (x5_1 : Int) := of_decide_eq_true (by first | (with_reducible assumption) | assumption)
                      have q231 : x5_1 < (l0.length : Int) := of_decide_eq_true (by first | (with_reducible assumption) | assumption)
                      obtain ⟨ad231, A231_2, c231_2, e231, hx231_0, hx231_1, hx231_2, hx231_3, hx231_4, hl231_2, hi231_2⟩ := at_T48 HR0.out x5_1 p231 q231
                      obtain rfl : ad225 = ad231 := (by injection e231)
                      have HR231_2 := Aside0.mk hi231_2
                      have HC231_2 := Aside0.mk hl231_2
                      clear hi231_2 hl231_2
                      replace p231 := eq_true p231
                      replace q231 := eq_true q231
                      have ea_ := Option.some.inj (hx225_2.symm.trans hx231_2)
                      injection ea_ with ea_ en_ ec_
                      subst ea_
                      subst ec_
                      clear en_
                      have p232 : 0 ≤ (x5_1 : Int) := of_decide_eq_true (by first | (with_reducible assumption) | assumption)
                      have q232 : x5_1 < (l1.length : Int) := of_decide_eq_true (by first | (with_reducible assumption) | assumption)
                      obtain ⟨ad232, A232_2, c232_2, e232, hx232_0, hx232_1, hx232_2, hx232_3, hx232_4, hl232_2, hi232_2⟩ := at_T48 HR1.out x5_1 p232 q232
                      obtain rfl : ad226 = ad232 := (by injection e232)
                      have HR232_2 := Aside0.mk hi232_2
                      have HC232_2 := Aside0.mk hl232_2
                      clear hi232_2 hl232_2
                      replace p232 := eq_true p232
                      replace q232 := eq_true q232
                      have ea_ := Option.some.inj (hx226_2.symm.trans hx232_2)
                      injection ea_ with ea_ en_ ec_
                      subst ea_
                      subst ec_
                      clear en_
                      go_wp2
                      repeat (go_quiet (fail); try go_wp2)
                      go_ret
                      exact ⟨by first | rfl | (simp; done) | (simp [*]; done), by repeat (first | exact Drawn0.refl _ | apply Drawn0.step)⟩
                  · rw [if_neg c9] at H
                    have c9b0 : ((strOfNums ((rd_T48 l0 x5_1).f2)).toList == (strOfNums ((rd_T48 l1 x5_1).f2)).toList) = false := beq_eq_false_iff_ne.mpr c9
                    have c9b1 : ((strOfNums ((rd_T48 l0 x5_1).f2)).toList != (strOfNums ((rd_T48 l1 x5_1).f2)).toList) = true := bne_iff_ne.mpr c9
                    obtain rfl := Option.some.inj H
                    have p225 : 0 ≤ (x5_1 : Int) := of_decide_eq_true (by first | (with_reducible assumption) | assumption)
                    have q225 : x5_1 < (l0.length : Int) := of_decide_eq_true (by first | (with_reducible assumption) | assumption)
                    obtain ⟨ad225, A225_2, c225_2, e225, hx225_0, hx225_1, hx225_2, hx225_3, hx225_4, hl225_2, hi225_2⟩ := at_T48 HR0.out x5_1 p225 q225
                    cases e225
                    have HR225_2 := Aside0.mk hi225_2
                    have HC225_2 := Aside0.mk hl225_2
                    clear hi225_2 hl225_2
                    replace p225 := eq_true p225
                    replace q225 := eq_true q225
                    have p226 : 0 ≤ (x5_1 : Int) := of_decide_eq_true (by first | (with_reducible assumption) | assumption)
                    have q226 : x5_1 < (l1.length : Int) := of_decide_eq_true (by first | (with_reducible assumption) | assumption)
                    obtain ⟨ad226, A226_2, c226_2, e226, hx226_0, hx226_1, hx226_2, hx226_3, hx226_4, hl226_2, hi226_2⟩ := at_T48 HR1.out x5_1 p226 q226
                    cases e226
                    have HR226_2 := Aside0.mk hi226_2
                    have HC226_2 := Aside0.mk hl226_2
                    clear hi226_2 hl226_2
                    replace p226 := eq_true p226
                    replace q226 := eq_true q226
                    have p227 : 0 ≤ (x5_1 : Int) := of_decide_eq_true (by first | (with_reducible assumption) | assumption)
                    have q227 : x5_1 < (l0.length : Int) := of_decide_eq_true (by first | (with_reducible assumption) | assumption)
                    obtain ⟨ad227, A227_2, c227_2, e227, hx227_0, hx227_1, hx227_2, hx227_3, hx227_4, hl227_2, hi227_2⟩ := at_T48 HR0.out x5_1 p227 q227
                    obtain rfl : ad225 = ad227 := (by injection e227)
                    have HR227_2 := Aside0.mk hi227_2
                    have HC227_2 := Aside0.mk hl227_2
                    clear hi227_2 hl227_2
                    replace p227 := eq_true p227
                    replace q227 := eq_true q227
                    have ea_ := Option.some.inj (hx225_2.symm.trans hx227_2)
                    injection ea_ with ea_ en_ ec_
                    subst ea_
                    subst ec_
                    clear en_
                    have p228 : 0 ≤ (x5_1 : Int) := of_decide_eq_true (by first | (with_reducible assumption) | assumption)
                    have q228 : x5_1 < (l1.length : Int) := of_decide_eq_true (by first | (with_reducible assumption) | assumption)
                    obtain ⟨ad228, A228_2, c228_2, e228, hx228_0, hx228_1, hx228_2, hx228_3, hx228_4, hl228_2, hi228_2⟩ := at_T48 HR1.out x5_1 p228 q228
                    obtain rfl : ad226 = ad228 := (by injection e228)
                    have HR228_2 := Aside0.mk hi228_2
                    have HC228_2 := Aside0.mk hl228_2
                    clear hi228_2 hl228_2
                    replace p228 := eq_true p228
                    replace q228 := eq_true q228
                    have ea_ := Option.some.inj (hx226_2.symm.trans hx228_2)
                    injection ea_ with ea_ en_ ec_
                    subst ea_
                    subst ec_
                    clear en_
                    have p229 : 0 ≤ (x5_1 : Int) := of_decide_eq_true (by first | (with_reducible assumption) | assumption)
                    have q229 : x5_1 < (l0.length : Int) := of_decide_eq_true (by first | (with_reducible assumption) | assumption)
                    obtain ⟨ad229, A229_2, c229_2, e229, hx229_0, hx229_1, hx229_2, hx229_3, hx229_4, hl229_2, hi229_2⟩ := at_T48 HR0.out x5_1 p229 q229
                    obtain rfl : ad225 = ad229 := (by injection e229)
                    have HR229_2 := Aside0.mk hi229_2
                    have HC229_2 := Aside0.mk hl229_2
                    clear hi229_2 hl229_2
                    replace p229 := eq_true p229
                    replace q229 := eq_true q229
                    have ea_ := Option.some.inj (hx225_2.symm.trans hx229_2)
                    injection ea_ with ea_ en_ ec_
                    subst ea_
                    subst ec_
                    clear en_
                    have hcv24 := Kd.C_string (P := Tryd.prog) (A := A225_2) (c := c225_2) Tryd.underlying42 Tryd.underlying5 Tryd.underlying9 HR229_2.out
                    have hcw25 := fun (n_ : Nat) => Kd.C_string (P := Tryd.prog) (A := A225_2) (c := c225_2) Tryd.underlying42 Tryd.underlying5 Tryd.underlying9 (Kd.C_drewN HR229_2.out n_)
                    have p230 : 0 ≤ (x5_1 : Int) := of_decide_eq_true (by first | (with_reducible assumption) | assumption)
                    have q230 : x5_1 < (l1.length : Int) := of_decide_eq_true (by first | (with_reducible assumption) | assumption)
                    obtain ⟨ad230, A230_2, c230_2, e230, hx230_0, hx230_1, hx230_2, hx230_3, hx230_4, hl230_2, hi230_2⟩ := at_T48 HR1.out x5_1 p230 q230
                    obtain rfl : ad226 = ad230 := (by injection e230)
                    have HR230_2 := Aside0.mk hi230_2
                    have HC230_2 := Aside0.mk hl230_2
                    clear hi230_2 hl230_2
                    replace p230 := eq_true p230
                    replace q230 := eq_true q230
                    have ea_ := Option.some.inj (hx226_2.symm.trans hx230_2)
                    injection ea_ with ea_ en_ ec_
                    subst ea_
                    subst ec_
                    clear en_
                    have hcv26 := Kd.C_string (P := Tryd.prog) (A := A226_2) (c := c226_2) Tryd.underlying42 Tryd.underlying5 Tryd.underlying9 HR230_2.out
                    have hcw27 := fun (n_ : Nat) => Kd.C_string (P := Tryd.prog) (A := A226_2) (c := c226_2) Tryd.underlying42 Tryd.underlying5 Tryd.underlying9 (Kd.C_drewN HR230_2.out n_)
                    go_wp2
                    repeat (go_quiet (fail); try go_wp2)
                    go_ret
                    exact ⟨by first | rfl | (simp; done) | (simp [*]; done), by repeat (first | exact Drawn0.refl _ | apply Drawn0.step)⟩
                · rw [if_neg c8] at H
                  have c8b0 : (((rd_T48 l0 x5_1).f1).toList == ((rd_T48 l1 x5_1).f1).toList) = false := beq_eq_false_iff_ne.mpr c8
                  have c8b1 : (((rd_T48 l0 x5_1).f1).toList != ((rd_T48 l1 x5_1).f1).toList) = true := bne_iff_ne.mpr c8
                  obtain rfl := Option.some.inj H
                  have p225 : 0 ≤ (x5_1 : Int) := of_decide_eq_true (by first | (with_reducible assumption) | assumption)
                  have q225 : x5_1 < (l0.length : Int) := of_decide_eq_true (by first | (with_reducible assumption) | assumption)
                  obtain ⟨ad225, A225_2, c225_2, e225, hx225_0, hx225_1, hx225_2, hx225_3, hx225_4, hl225_2, hi225_2⟩ := at_T48 HR0.out x5_1 p225 q225
                  cases e225
                  have HR225_2 := Aside0.mk hi225_2
                  have HC225_2 := Aside0.mk hl225_2
                  clear hi225_2 hl225_2
                  replace p225 := eq_true p225
                  replace q225 := eq_true q225
                  have p226 : 0 ≤ (x5_1 : Int) := of_decide_eq_true (by first | (with_reducible assumption) | assumption)
                  have q226 : x5_1 < (l1.length : Int) := of_decide_eq_true (by first | (with_reducible assumption) | assumption)
                  obtain ⟨ad226, A226_2, c226_2, e226, hx226_0, hx226_1, hx226_2, hx226_3, hx226_4, hl226_2, hi226_2⟩ := at_T48 HR1.out x5_1 p226 q226
                  cases e226
                  have HR226_2 := Aside0.mk hi226_2
                  have HC226_2 := Aside0.mk hl226_2
                  clear hi226_2 hl226_2
                  replace p226 := eq_true p226
                  replace q226 := eq_true q226
                  have p227 : 0 ≤ (x5_1 : Int) := of_decide_eq_true (by first | (with_reducible assumption) | assumption)
                  have q227 : x5_1 < (l0.length : Int) := of_decide_eq_true (by first | (with_reducible assumption) | assumption)
                  obtain ⟨ad227, A227_2, c227_2, e227, hx227_0, hx227_1, hx227_2, hx227_3, hx227_4, hl227_2, hi227_2⟩ := at_T48 HR0.out x5_1 p227 q227
                  obtain rfl : ad225 = ad227 := (by injection e227)
                  have HR227_2 := Aside0.mk hi227_2
                  have HC227_2 := Aside0.mk hl227_2
                  clear hi227_2 hl227_2
                  replace p227 := eq_true p227
                  replace q227 := eq_true q227
                  have ea_ := Option.some.inj (hx225_2.symm.trans hx227_2)
                  injection ea_ with ea_ en_ ec_
                  subst ea_
                  subst ec_
                  clear en_
                  have p228 : 0 ≤ (x5_1 : Int) := of_decide_eq_true (by first | (with_reducible assumption) | assumption)
                  have q228 : x5_1 < (l1.length : Int) := of_decide_eq_true (by first | (with_reducible assumption) | assumption)
                  obtain ⟨ad228, A228_2, c228_2, e228, hx228_0, hx228_1, hx228_2, hx228_3, hx228_4, hl228_2, hi228_2⟩ := at_T48 HR1.out x5_1 p228 q228
                  obtain rfl : ad226 = ad228 := (by injection e228)
                  have HR228_2 := Aside0.mk hi228_2
                  have HC228_2 := Aside0.mk hl228_2
                  clear hi228_2 hl228_2
                  replace p228 := eq_true p228
                  replace q228 := eq_true q228
                  have ea_ := Option.some.inj (hx226_2.symm.trans hx228_2)
                  injection ea_ with ea_ en_ ec_
                  subst ea_
                  subst ec_
                  clear en_
                  go_wp2
                  repeat (go_quiet (fail); try go_wp2)
                  go_ret
                  exact ⟨by first | rfl | (simp; done) | (simp [*]; done), by repeat (first | exact Drawn0.refl _ | apply Drawn0.step)⟩
              · rw [if_neg c7] at H
                have c7b0 : (((rd_T48 l0 x5_1).f0) == ((rd_T48 l1 x5_1).f0)) = false := beq_eq_false_iff_ne.mpr c7
                have c7b1 : (((rd_T48 l0 x5_1).f0) != ((rd_T48 l1 x5_1).f0)) = true := bne_iff_ne.mpr c7
                obtain rfl := Option.some.inj H
                have p225 : 0 ≤ (x5_1 : Int) := of_decide_eq_true (by first | (with_reducible assumption) | assumption)
                have q225 : x5_1 < (l0.length : Int) := of_decide_eq_true (by first | (with_reducible assumption) | assumption)
                obtain ⟨ad225, A225_2, c225_2, e225, hx225_0, hx225_1, hx225_2, hx225_3, hx225_4, hl225_2, hi225_2⟩ := at_T48 HR0.out x5_1 p225 q225
                cases e225
                have HR225_2 := Aside0.mk hi225_2
                have HC225_2 := Aside0.mk hl225_2
                clear hi225_2 hl225_2
                replace p225 := eq_true p225
                replace q225 := eq_true q225
                have p226 : 0 ≤ (x5_1 : Int) := of_decide_eq_true (by first | (with_reducible assumption) | assumption)
                have q226 : x5_1 < (l1.length : Int) := of_decide_eq_true (by first | (with_reducible assumption) | assumption)
                obtain ⟨ad226, A226_2, c226_2, e226, hx226_0, hx226_1, hx226_2, hx226_3, hx226_4, hl226_2, hi226_2⟩ := at_T48 HR1.out x5_1 p226 q226
                cases e226
                have HR226_2 := Aside0.mk hi226_2
                have HC226_2 := Aside0.mk hl226_2
                clear hi226_2 hl226_2
                replace p226 := eq_true p226
                replace q226 := eq_true q226
                go_wp2
                repeat (go_quiet (fail); try go_wp2)
                go_ret
                exact ⟨by first | rfl | (simp; done) | (simp [*]; done), by repeat (first | exact Drawn0.refl _ | apply Drawn0.step)⟩
            · rw [if_neg c6] at H
              exact absurd H (by simp)
          · rw [if_neg c5] at H
            exact absurd H (by simp)
        · rw [if_neg c4] at H
          have c4b0 : decide (x5_1 < (l0.length : Int)) = false := decide_eq_false c4
          clear c4
          obtain rfl := Option.some.inj H
          go_wp2
          repeat (go_quiet (fail); try go_wp2)
          go_ret
          exact ⟨by first | rfl | (simp; done) | (simp [*]; done), by repeat (first | exact Drawn0.refl _ | apply Drawn0.step)⟩
  · rw [if_neg c3] at H
    have c3b0 : ((l0.length : Int) == (l1.length : Int)) = false := beq_eq_false_iff_ne.mpr c3
    have c3b1 : ((l0.length : Int) != (l1.length : Int)) = true := bne_iff_ne.mpr c3
    have c3b2 : (l0.length == l1.length) = false := by first | simpa using c3 | (simp at c3 ⊢; omega)
    obtain rfl := Option.some.inj H
    go_enter Tryd.func9, Tryd.ntmps9
    go_wp2
    repeat (go_quiet (fail); try go_wp2)
    go_ret
    exact ⟨by first | rfl | (simp; done) | (simp [*]; done), by repeat (first | exact Drawn0.refl _ | apply Drawn0.step)⟩

/-! ### gazetteref14_SameTo: function 10 -/
def gazetteref14_SameTo.l0 : Nat → List Int → List Int → Int → Option (Bool)
  | 0, _, _, _ => none
  | k + 1, x0, x1, x5 => if x5 < (x0.length : Int) then (if 0 ≤ x5 then (if x5 < (x1.length : Int) then (if (rd x0 x5) = (rd x1 x5) then (gazetteref14_SameTo.l0 k x0 x1 (wrap64 (x5 + 1))) else (some false)) else (none)) else (none)) else (some true)
def gazetteref14_SameTo.f (k : Nat) (l0 : List Int) (l1 : List Int) : Option (Bool) := if (l0.length : Int) = (l1.length : Int) then (gazetteref14_SameTo.l0 k l0 l1 0) else (some false)
theorem gazetteref14_SameTo.mono_l : ∀ k, (∀ y0 y1 y2, LeO (gazetteref14_SameTo.l0 k y0 y1 y2) (gazetteref14_SameTo.l0 (k + 1) y0 y1 y2))
  | 0 => fun _ _ _ r h => by simp [gazetteref14_SameTo.l0] at h
  | k + 1 => by
    have ih0 := gazetteref14_SameTo.mono_l k
    · intro y0 y1 y2
      unfold gazetteref14_SameTo.l0
      repeat' first
      | (with_reducible exact ih0 _ _ _)
      | (with_reducible exact LeO.refl _)
      | (with_reducible exact LeO.none _)
      | (with_reducible refine LeO.ite ?_ ?_)
      | (with_reducible refine LeO.bind ?_ (fun _ => ?_))
      | exact ih0 _ _ _
      | exact LeO.none _
      | refine LeO.ite ?_ ?_
      | refine LeO.bind ?_ (fun _ => ?_)
theorem gazetteref14_SameTo.mono : ∀ a0 a1 k, LeO (gazetteref14_SameTo.f k a0 a1) (gazetteref14_SameTo.f (k + 1) a0 a1) := by
  intro a0 a1 k
  have ih0 := gazetteref14_SameTo.mono_l k
  unfold gazetteref14_SameTo.f
  repeat' first
      | (with_reducible exact ih0 _ _ _)
      | (with_reducible exact LeO.refl _)
      | (with_reducible exact LeO.none _)
      | (with_reducible refine LeO.ite ?_ ?_)
      | (with_reducible refine LeO.bind ?_ (fun _ => ?_))
      | exact ih0 _ _ _
      | exact LeO.none _
      | refine LeO.ite ?_ ?_
      | refine LeO.bind ?_ (fun _ => ?_)
set_option maxHeartbeats 8000000 in
set_option maxRecDepth 100000 in
theorem gazetteref14_SameTo.calls (k : Nat) (A0 : Option Addr) (c0 : Nat) (l0 : List Int) (A1 : Option Addr) (c1 : Nat) (l1 : List Int) (r : Bool) (w : World) (hr0 : Kd.C (Kd.int .u64) w A0 l0.length l0) (hc0 : l0.length ≤ c0) (hr1 : Kd.C (Kd.int .u64) w A1 l1.length l1) (hc1 : l1.length ≤ c1) (h : gazetteref14_SameTo.f k l0 l1 = some r) :
    Calls Tryd.prog 10 #[.slice A0 l0.length c0, .slice A1 l1.length c1] w fun e w' => e = .returned (.bool r) ∧ Drawn0 w w' := by
  have HR0 := Aside0.mk hr0
  have HC0 := Aside0.mk hc0
  clear hr0 hc0
  have HR1 := Aside0.mk hr1
  have HC1 := Aside0.mk hc1
  clear hr1 hc1
  have H : (if (l0.length : Int) = (l1.length : Int) then (gazetteref14_SameTo.l0 k l0 l1 0) else (some false)) = some r := h
  clear h
  by_cases c3 : (l0.length : Int) = (l1.length : Int)
  · rw [if_pos c3] at H
    have c3b0 : ((l0.length : Int) == (l1.length : Int)) = true := beq_iff_eq.mpr c3
    have c3b1 : ((l0.length : Int) != (l1.length : Int)) = false := bne_eq_false_iff_eq.mpr c3
    have c3b2 : (l0.length == l1.length) = true := by first | simpa using c3 | (simp at c3 ⊢; omega)
    clear c3
    have H' := Aside0.mk H
    clear H
    go_enter Tryd.func10, Tryd.ntmps10
    go_wp2
    repeat (go_quiet (fail); try go_wp2)
    go_loopg [5] k (fun kq v5 w' => ∃ (x5_1 : Int), v5 = .int .i64 x5_1 ∧ Aside0 (gazetteref14_SameTo.l0 kq l0 l1 x5_1 = some r) ∧ Aside0 (kq ≤ k) ∧ Drawn0 w w')
    case atStart => exact ⟨(0), (by first | rfl | (simp; done) | (simp [*]; done)), H', ⟨Nat.le_refl _⟩, by repeat (first | exact Drawn0.refl _ | apply Drawn0.step)⟩
    case round =>
      clear H'
      try clear c1
      try clear p2
      try clear c3
      try clear c3b0
      try clear c3b1
      try clear c3b2
      obtain ⟨x5_1, rfl, HA, HK1, ⟨m1, rfl⟩⟩ := hrel
      cases gk with
      | zero => exact absurd HA.out (by simp [gazetteref14_SameTo.l0])
      | succ k1 =>
        have H := HA.out
        clear HA
        simp only [gazetteref14_SameTo.l0] at H
        by_cases c4 : x5_1 < (l0.length : Int)
        · rw [if_pos c4] at H
          have c4b0 : decide (x5_1 < (l0.length : Int)) = true := decide_eq_true c4
          clear c4
          by_cases c5 : 0 ≤ x5_1
          · rw [if_pos c5] at H
            have c5b0 : decide (0 ≤ x5_1) = true := decide_eq_true c5
            clear c5
            by_cases c6 : x5_1 < (l1.length : Int)
            · rw [if_pos c6] at H
              have c6b0 : decide (x5_1 < (l1.length : Int)) = true := decide_eq_true c6
              clear c6
              by_cases c7 : (rd l0 x5_1) = (rd l1 x5_1)
              · rw [if_pos c7] at H
                have c7b0 : ((rd l0 x5_1) == (rd l1 x5_1)) = true := beq_iff_eq.mpr c7
                have c7b1 : ((rd l0 x5_1) != (rd l1 x5_1)) = false := bne_eq_false_iff_eq.mpr c7
                clear c7
                have H' := Aside0.mk H
                clear H
                have p235 : 0 ≤ (x5_1 : Int) := of_decide_eq_true (by first | (with_reducible assumption) | assumption)
                have q235 : x5_1 < (l0.length : Int) := of_decide_eq_true (by first | (with_reducible assumption) | assumption)
                obtain ⟨ad235, e235, hx235_0⟩ := Kd.at_int HR0.out x5_1 p235 q235
                cases e235
                replace p235 := eq_true p235
                replace q235 := eq_true q235
                have p236 : 0 ≤ (x5_1 : Int) := of_decide_eq_true (by first | (with_reducible assumption) | assumption)
                have q236 : x5_1 < (l1.length : Int) := of_decide_eq_true (by first | (with_reducible assumption) | assumption)
                obtain ⟨ad236, e236, hx236_0⟩ := Kd.at_int HR1.out x5_1 p236 q236
                cases e236
                replace p236 := eq_true p236
                replace q236 := eq_true q236
                go_wp2
                repeat (go_quiet (fail); try go_wp2)
                go_roundg k1
                case measure => have := HK1.out; omega
                case rel => exact ⟨(wrap64 (x5_1 + 1)), (by first | rfl | (simp; done) | (simp [*]; done)), H', ⟨by have := HK1.out; omega⟩, by repeat (first | exact Drawn0.refl _ | apply Drawn0.step)⟩
              · rw [if_neg c7] at H
                have c7b0 : ((rd l0 x5_1) == (rd l1 x5_1)) = false := beq_eq_false_iff_ne.mpr c7
                have c7b1 : ((rd l0 x5_1) != (rd l1 x5_1)) = true := bne_iff_ne.mpr c7
                obtain rfl := Option.some.inj H
                have p235 : 0 ≤ (x5_1 : Int) := of_decide_eq_true (by first | (with_reducible assumption) | assumption)
                have q235 : x5_1 < (l0.length : Int) := of_decide_eq_true (by first | (with_reducible assumption) | assumption)
                obtain ⟨ad235, e235, hx235_0⟩ := Kd.at_int HR0.out x5_1 p235 q235
                cases e235
                replace p235 := eq_true p235
                replace q235 := eq_true q235
                have p236 : 0 ≤ (x5_1 : Int) := of_decide_eq_true (by first | (with_reducible assumption) | assumption)
                have q236 : x5_1 < (l1.length : Int) := of_decide_eq_true (by first | (with_reducible assumption) | assumption)
                obtain ⟨ad236, e236, hx236_0⟩ := Kd.at_int HR1.out x5_1 p236 q236
                cases e236
                replace p236 := eq_true p236
                replace q236 := eq_true q236
                go_wp2
                repeat (go_quiet (fail); try go_wp2)
                go_ret
                exact ⟨by first | rfl | (simp; done) | (simp [*]; done), by repeat (first | exact Drawn0.refl _ | apply Drawn0.step)⟩
            · rw [if_neg c6] at H
              exact absurd H (by simp)
          · rw [if_neg c5] at H
            exact absurd H (by simp)
        · rw [if_neg c4] at H
          have c4b0 : decide (x5_1 < (l0.length : Int)) = false := decide_eq_false c4
          clear c4
          obtain rfl := Option.some.inj H
          go_wp2
          repeat (go_quiet (fail); try go_wp2)
          go_ret
          exact ⟨by first | rfl | (simp; done) | (simp [*]; done), by repeat (first | exact Drawn0.refl _ | apply Drawn0.step)⟩
  · rw [if_neg c3] at H
    have c3b0 : ((l0.length : Int) == (l1.length : Int)) = false := beq_eq_false_iff_ne.mpr c3
    have c3b1 : ((l0.length : Int) != (l1.length : Int)) = true := bne_iff_ne.mpr c3
    have c3b2 : (l0.length == l1.length) = false := by first | simpa using c3 | (simp at c3 ⊢; omega)
    obtain rfl := Option.some.inj H
    go_enter Tryd.func10, Tryd.ntmps10
    go_wp2
    repeat (go_quiet (fail); try go_wp2)
    go_ret
    exact ⟨by first | rfl | (simp; done) | (simp [*]; done), by repeat (first | exact Drawn0.refl _ | apply Drawn0.step)⟩

-- NOT PRINTED: function 11 (gazettelaw14_spoil)

-- NOT PRINTED: function 69 (api_Record_69)

-- NOT PRINTED: function 51 (api_Record_51)

-- NOT PRINTED: function 29 (records_side_wait)

-- NOT PRINTED: function 12 (records_Join)

end Go.Proofs.YtkmffeicgpocgaaDoor.P
