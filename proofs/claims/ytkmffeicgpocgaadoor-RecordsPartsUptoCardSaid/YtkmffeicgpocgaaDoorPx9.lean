-- PRINTED by print.py (a twelfth state) out of the translation. Not trusted: Lean checks it.
import Derived.Test.YtkmffeicgpocgaaDoorPx0
namespace Go.Proofs.YtkmffeicgpocgaaDoor.P
open Go.RowKit Go.Proofs.YtkmffeicgpocgaaDoorW.PrintWords Go.Proofs.YtkmffeicgpocgaaDoorW.PrintLast Go.Proofs.YtkmffeicgpocgaaDoorW.PrintMore
attribute [local go_sem] max2_int min2_int max_two min_two max_three min_three max_four min_four   -- for this text's walks alone
set_option linter.unusedVariables false
set_option linter.unusedSimpArgs false

/-! ### gazetteref14_lower: function 30 -/
def gazetteref14_lower.l0 : Nat → List (S48) → Int → Int → ByteArray → List Int → Int → Int → Option (Bool)
  | 0, _, _, _, _, _, _, _ => none
  | k + 1, x0, x5, x248000, x248001, x248002, x248003, x248004 => if x5 < (x0.length : Int) then (if 0 ≤ x5 then (if ((rd_T48 x0 x5).f3) = x248003 then (if ((rd_T48 x0 x5).f4) < x248004 then (some true) else (gazetteref14_lower.l0 k x0 (wrap64 (x5 + 1)) x248000 x248001 x248002 x248003 x248004)) else (gazetteref14_lower.l0 k x0 (wrap64 (x5 + 1)) x248000 x248001 x248002 x248003 x248004)) else (none)) else (some false)
def gazetteref14_lower.f (k : Nat) (l0 : List (S48)) (a1_0 : Int) (a1_1 : ByteArray) (l1_2 : List Int) (a1_3 : Int) (a1_4 : Int) : Option (Bool) := gazetteref14_lower.l0 k l0 0 a1_0 a1_1 l1_2 a1_3 a1_4
theorem gazetteref14_lower.mono_l : ∀ k, (∀ y0 y1 y2 y3 y4 y5 y6, LeO (gazetteref14_lower.l0 k y0 y1 y2 y3 y4 y5 y6) (gazetteref14_lower.l0 (k + 1) y0 y1 y2 y3 y4 y5 y6))
  | 0 => fun _ _ _ _ _ _ _ r h => by simp [gazetteref14_lower.l0] at h
  | k + 1 => by
    have ih0 := gazetteref14_lower.mono_l k
    · intro y0 y1 y2 y3 y4 y5 y6
      unfold gazetteref14_lower.l0
      repeat' first
      | (with_reducible exact ih0 _ _ _ _ _ _ _)
      | (with_reducible exact LeO.refl _)
      | (with_reducible exact LeO.none _)
      | (with_reducible refine LeO.ite ?_ ?_)
      | (with_reducible refine LeO.bind ?_ (fun _ => ?_))
      | exact ih0 _ _ _ _ _ _ _
      | exact LeO.none _
      | refine LeO.ite ?_ ?_
      | refine LeO.bind ?_ (fun _ => ?_)
theorem gazetteref14_lower.mono : ∀ a0 a1 a2 a3 a4 a5 k, LeO (gazetteref14_lower.f k a0 a1 a2 a3 a4 a5) (gazetteref14_lower.f (k + 1) a0 a1 a2 a3 a4 a5) := by
  intro a0 a1 a2 a3 a4 a5 k
  have ih0 := gazetteref14_lower.mono_l k
  unfold gazetteref14_lower.f
  repeat' first
      | (with_reducible exact ih0 _ _ _ _ _ _ _)
      | (with_reducible exact LeO.refl _)
      | (with_reducible exact LeO.none _)
      | (with_reducible refine LeO.ite ?_ ?_)
      | (with_reducible refine LeO.bind ?_ (fun _ => ?_))
      | exact ih0 _ _ _ _ _ _ _
      | exact LeO.none _
      | refine LeO.ite ?_ ?_
      | refine LeO.bind ?_ (fun _ => ?_)
set_option maxHeartbeats 8000000 in
set_option maxRecDepth 100000 in
theorem gazetteref14_lower.calls (k : Nat) (A0 : Option Addr) (c0 : Nat) (l0 : List (S48)) (a1_0 : Int) (a1_1 : ByteArray) (A1_2 : Option Addr) (c1_2 : Nat) (l1_2 : List Int) (a1_3 : Int) (a1_4 : Int) (r : Bool) (w : World) (hr0 : Kd.C k48 w A0 l0.length l0) (hc0 : l0.length ≤ c0) (hr1_2 : Kd.C (Kd.int .u8) w A1_2 l1_2.length l1_2) (hc1_2 : l1_2.length ≤ c1_2) (h : gazetteref14_lower.f k l0 a1_0 a1_1 l1_2 a1_3 a1_4 = some r) :
    Calls Tryd.prog 30 #[.slice A0 l0.length c0, .agg #[.int .u64 a1_0, .string a1_1, .slice A1_2 l1_2.length c1_2, .int .u64 a1_3, .int .u64 a1_4]] w fun e w' => e = .returned (.bool r) ∧ Below w.heap.size w w' := by
  have hu48 := Tryd.underlying48
  have HR0 := Aside0.mk hr0
  have HC0 := Aside0.mk hc0
  clear hr0 hc0
  have HR1_2 := Aside0.mk hr1_2
  have HC1_2 := Aside0.mk hc1_2
  clear hr1_2 hc1_2
  have HB := Aside0.mk (Below.refl w.heap.size w)
  have H : (gazetteref14_lower.l0 k l0 0 a1_0 a1_1 l1_2 a1_3 a1_4) = some r := h
  clear h
  have H' := Aside0.mk H
  clear H
  go_enter Tryd.func30, Tryd.ntmps30
  go_wp2_with (first | ((with_reducible refine gate_dst (N := 3) rfl ?_); refine box_event ?hg (N := 3) ?hd (cs := #[.int .u64 a1_0, .string a1_1, .slice A1_2 l1_2.length c1_2, .int .u64 a1_3, .int .u64 a1_4]) (t := 48) ?hr ?_; (case hd => rfl); (case hg => rfl); (case hr => first | (go_simp; done) | (go_simp; rfl)); intro gb247 hg w3 hbox hb; have n0_ := Aside0.mk (below_step (by repeat (first | (with_reducible first | exact HB.out | apply below_alloc | apply pw_below_drewN | apply below_drew1) | exact HB.out)) hb); have n1_ := Aside0.mk (hbox); have n2_ := Aside0.mk ((by rw [hg]; exact (below_size (by repeat (first | (with_reducible first | exact HB.out | apply below_alloc | apply pw_below_drewN | apply below_drew1) | exact HB.out))) : w.heap.size ≤ gb247)); have n3_ := Aside0.mk ((by rw [hg]; exact (below_size (by repeat (first | (with_reducible first | exact HB.out | apply below_alloc | apply pw_below_drewN | apply below_drew1) | exact HB.out))) : w.heap.size ≤ gb247)); clear HB; have HB := n0_; have BK247 := n1_; have GW247 := n2_; have GE247 := n3_; clear n0_ n1_ n2_ n3_; clear hb hbox hg))
  repeat (go_quiet (first | ((with_reducible refine gate_dst (N := 3) rfl ?_); refine box_event ?hg (N := 3) ?hd (cs := #[.int .u64 a1_0, .string a1_1, .slice A1_2 l1_2.length c1_2, .int .u64 a1_3, .int .u64 a1_4]) (t := 48) ?hr ?_; (case hd => rfl); (case hg => rfl); (case hr => first | (go_simp; done) | (go_simp; rfl)); intro gb247 hg w3 hbox hb; have n0_ := Aside0.mk (below_step (by repeat (first | (with_reducible first | exact HB.out | apply below_alloc | apply pw_below_drewN | apply below_drew1) | exact HB.out)) hb); have n1_ := Aside0.mk (hbox); have n2_ := Aside0.mk ((by rw [hg]; exact (below_size (by repeat (first | (with_reducible first | exact HB.out | apply below_alloc | apply pw_below_drewN | apply below_drew1) | exact HB.out))) : w.heap.size ≤ gb247)); have n3_ := Aside0.mk ((by rw [hg]; exact (below_size (by repeat (first | (with_reducible first | exact HB.out | apply below_alloc | apply pw_below_drewN | apply below_drew1) | exact HB.out))) : w.heap.size ≤ gb247)); clear HB; have HB := n0_; have BK247 := n1_; have GW247 := n2_; have GE247 := n3_; clear n0_ n1_ n2_ n3_; clear hb hbox hg)); try go_wp2_with (first | ((with_reducible refine gate_dst (N := 3) rfl ?_); refine box_event ?hg (N := 3) ?hd (cs := #[.int .u64 a1_0, .string a1_1, .slice A1_2 l1_2.length c1_2, .int .u64 a1_3, .int .u64 a1_4]) (t := 48) ?hr ?_; (case hd => rfl); (case hg => rfl); (case hr => first | (go_simp; done) | (go_simp; rfl)); intro gb247 hg w3 hbox hb; have n0_ := Aside0.mk (below_step (by repeat (first | (with_reducible first | exact HB.out | apply below_alloc | apply pw_below_drewN | apply below_drew1) | exact HB.out)) hb); have n1_ := Aside0.mk (hbox); have n2_ := Aside0.mk ((by rw [hg]; exact (below_size (by repeat (first | (with_reducible first | exact HB.out | apply below_alloc | apply pw_below_drewN | apply below_drew1) | exact HB.out))) : w.heap.size ≤ gb247)); have n3_ := Aside0.mk ((by rw [hg]; exact (below_size (by repeat (first | (with_reducible first | exact HB.out | apply below_alloc | apply pw_below_drewN | apply below_drew1) | exact HB.out))) : w.heap.size ≤ gb247)); clear HB; have HB := n0_; have BK247 := n1_; have GW247 := n2_; have GE247 := n3_; clear n0_ n1_ n2_ n3_; clear hb hbox hg)))
  go_loopg [5] k (fun kq v5 w' => ∃ (x5_1 : Int), v5 = .int .i64 x5_1 ∧ Aside0 (gazetteref14_lower.l0 kq l0 x5_1 a1_0 a1_1 l1_2 a1_3 a1_4 = some r) ∧ Aside0 (kq ≤ k) ∧ Aside0 (w'.heap[gb247]? = some (.cells #[.int .u64 a1_0, .string a1_1, (.slice A1_2 l1_2.length c1_2), .int .u64 a1_3, .int .u64 a1_4] 48 (0, 0))) ∧ Aside0 (Below w.heap.size w w'))
  case atStart => exact ⟨(0), (by first | rfl | (simp; done) | (simp [*]; done)), H', ⟨Nat.le_refl _⟩, ⟨by (with_reducible repeat (first | refine blk_drewN ?_ _ | refine blk_drew ?_ | refine blk_alloc ?_ _)); exact BK247.out⟩, ⟨by repeat (first | (with_reducible first | exact HB.out | apply below_alloc | apply pw_below_drewN | apply below_drew1 | refine below_set ?_ GE247.out) | exact HB.out)⟩⟩
  case round =>
    clear H'
    try clear c1
    try clear p2
    try clear c3
    obtain ⟨x5_1, rfl, HA, HK1, BK247, HB⟩ := hrel
    cases gk with
    | zero => exact absurd HA.out (by simp [gazetteref14_lower.l0])
    | succ k1 =>
      have H := HA.out
      clear HA
      simp only [gazetteref14_lower.l0] at H
      by_cases c4 : x5_1 < (l0.length : Int)
      · rw [if_pos c4] at H
        have c4b0 : decide (x5_1 < (l0.length : Int)) = true := decide_eq_true c4
        clear c4
        by_cases c5 : 0 ≤ x5_1
        · rw [if_pos c5] at H
          have c5b0 : decide (0 ≤ x5_1) = true := decide_eq_true c5
          clear c5
          by_cases c6 : ((rd_T48 l0 x5_1).f3) = a1_3
          · rw [if_pos c6] at H
            have c6b0 : (((rd_T48 l0 x5_1).f3) == a1_3) = true := beq_iff_eq.mpr c6
            have c6b1 : (((rd_T48 l0 x5_1).f3) != a1_3) = false := bne_eq_false_iff_eq.mpr c6
            clear c6
            by_cases c7 : ((rd_T48 l0 x5_1).f4) < a1_4
            · rw [if_pos c7] at H
              have c7b0 : decide (((rd_T48 l0 x5_1).f4) < a1_4) = true := decide_eq_true c7
              clear c7
              obtain rfl := Option.some.inj H
              have p248 : 0 ≤ (x5_1 : Int) := of_decide_eq_true (by first | (with_reducible assumption) | assumption)
              have q248 : x5_1 < (l0.length : Int) := of_decide_eq_true (by first | (with_reducible assumption) | assumption)
              obtain ⟨ad248, A248_2, c248_2, e248, hx248_0, hx248_1, hx248_2, hx248_3, hx248_4, hl248_2, hi248_2⟩ := at_T48 HR0.out x5_1 p248 q248
              cases e248
              replace hx248_0 := (HB.out.cell (World.block_lt_of_cell? w _ hx248_0)).trans hx248_0
              replace hx248_1 := (HB.out.cell (World.block_lt_of_cell? w _ hx248_1)).trans hx248_1
              replace hx248_2 := (HB.out.cell (World.block_lt_of_cell? w _ hx248_2)).trans hx248_2
              replace hx248_3 := (HB.out.cell (World.block_lt_of_cell? w _ hx248_3)).trans hx248_3
              replace hx248_4 := (HB.out.cell (World.block_lt_of_cell? w _ hx248_4)).trans hx248_4
              have HR248_2 := Aside0.mk hi248_2
              have HC248_2 := Aside0.mk hl248_2
              clear hi248_2 hl248_2
              replace p248 := eq_true p248
              replace q248 := eq_true q248
              have hcz8_0 : wr.cell? ⟨gb247, 0, none⟩ = some (.int .u64 a1_0) := (blk_cell BK247.out 0).trans rfl
              have hcz8_1 : wr.cell? ⟨gb247, 1, none⟩ = some (.string a1_1) := (blk_cell BK247.out 1).trans rfl
              have hcz8_2 : wr.cell? ⟨gb247, 2, none⟩ = some (.slice A1_2 l1_2.length c1_2) := (blk_cell BK247.out 2).trans rfl
              have hcz8_3 : wr.cell? ⟨gb247, 3, none⟩ = some (.int .u64 a1_3) := (blk_cell BK247.out 3).trans rfl
              have hcz8_4 : wr.cell? ⟨gb247, 4, none⟩ = some (.int .u64 a1_4) := (blk_cell BK247.out 4).trans rfl
              have hfz8_0 := blk_frozen BK247.out 0
              have hfz8_1 := blk_frozen BK247.out 1
              have hfz8_2 := blk_frozen BK247.out 2
              have hfz8_3 := blk_frozen BK247.out 3
              have hfz8_4 := blk_frozen BK247.out 4
              have p249 : 0 ≤ (x5_1 : Int) := of_decide_eq_true (by first | (with_reducible assumption) | assumption)
              have q249 : x5_1 < (l0.length : Int) := of_decide_eq_true (by first | (with_reducible assumption) | assumption)
              obtain ⟨ad249, A249_2, c249_2, e249, hx249_0, hx249_1, hx249_2, hx249_3, hx249_4, hl249_2, hi249_2⟩ := at_T48 HR0.out x5_1 p249 q249
              obtain rfl : ad248 = ad249 := (by injection e249)
              replace hx249_0 := (HB.out.cell (World.block_lt_of_cell? w _ hx249_0)).trans hx249_0
              replace hx249_1 := (HB.out.cell (World.block_lt_of_cell? w _ hx249_1)).trans hx249_1
              replace hx249_2 := (HB.out.cell (World.block_lt_of_cell? w _ hx249_2)).trans hx249_2
              replace hx249_3 := (HB.out.cell (World.block_lt_of_cell? w _ hx249_3)).trans hx249_3
              replace hx249_4 := (HB.out.cell (World.block_lt_of_cell? w _ hx249_4)).trans hx249_4
              have HR249_2 := Aside0.mk hi249_2
              have HC249_2 := Aside0.mk hl249_2
              clear hi249_2 hl249_2
              replace p249 := eq_true p249
              replace q249 := eq_true q249
              have ea_ := Option.some.inj (hx248_2.symm.trans hx249_2)
              injection ea_ with ea_ en_ ec_
              subst ea_
              subst ec_
              clear en_
              go_wp2
              repeat (go_quiet (fail); try go_wp2)
              go_ret
              exact ⟨by first | rfl | (simp [errW_none, errW_some] <;> rfl) | (simp [*, errW_none, errW_some] <;> rfl), by repeat (first | (with_reducible first | exact HB.out | apply below_alloc | apply pw_below_drewN | apply below_drew1 | refine below_set ?_ GE247.out) | exact HB.out)⟩
            · rw [if_neg c7] at H
              have c7b0 : decide (((rd_T48 l0 x5_1).f4) < a1_4) = false := decide_eq_false c7
              clear c7
              have H' := Aside0.mk H
              clear H
              have p248 : 0 ≤ (x5_1 : Int) := of_decide_eq_true (by first | (with_reducible assumption) | assumption)
              have q248 : x5_1 < (l0.length : Int) := of_decide_eq_true (by first | (with_reducible assumption) | assumption)
              obtain ⟨ad248, A248_2, c248_2, e248, hx248_0, hx248_1, hx248_2, hx248_3, hx248_4, hl248_2, hi248_2⟩ := at_T48 HR0.out x5_1 p248 q248
              cases e248
              replace hx248_0 := (HB.out.cell (World.block_lt_of_cell? w _ hx248_0)).trans hx248_0
              replace hx248_1 := (HB.out.cell (World.block_lt_of_cell? w _ hx248_1)).trans hx248_1
              replace hx248_2 := (HB.out.cell (World.block_lt_of_cell? w _ hx248_2)).trans hx248_2
              replace hx248_3 := (HB.out.cell (World.block_lt_of_cell? w _ hx248_3)).trans hx248_3
              replace hx248_4 := (HB.out.cell (World.block_lt_of_cell? w _ hx248_4)).trans hx248_4
              have HR248_2 := Aside0.mk hi248_2
              have HC248_2 := Aside0.mk hl248_2
              clear hi248_2 hl248_2
              replace p248 := eq_true p248
              replace q248 := eq_true q248
              have hcz9_0 : wr.cell? ⟨gb247, 0, none⟩ = some (.int .u64 a1_0) := (blk_cell BK247.out 0).trans rfl
              have hcz9_1 : wr.cell? ⟨gb247, 1, none⟩ = some (.string a1_1) := (blk_cell BK247.out 1).trans rfl
              have hcz9_2 : wr.cell? ⟨gb247, 2, none⟩ = some (.slice A1_2 l1_2.length c1_2) := (blk_cell BK247.out 2).trans rfl
              have hcz9_3 : wr.cell? ⟨gb247, 3, none⟩ = some (.int .u64 a1_3) := (blk_cell BK247.out 3).trans rfl
              have hcz9_4 : wr.cell? ⟨gb247, 4, none⟩ = some (.int .u64 a1_4) := (blk_cell BK247.out 4).trans rfl
              have hfz9_0 := blk_frozen BK247.out 0
              have hfz9_1 := blk_frozen BK247.out 1
              have hfz9_2 := blk_frozen BK247.out 2
              have hfz9_3 := blk_frozen BK247.out 3
              have hfz9_4 := blk_frozen BK247.out 4
              have p249 : 0 ≤ (x5_1 : Int) := of_decide_eq_true (by first | (with_reducible assumption) | assumption)
              have q249 : x5_1 < (l0.length : Int) := of_decide_eq_true (by first | (with_reducible assumption) | assumption)
              obtain ⟨ad249, A249_2, c249_2, e249, hx249_0, hx249_1, hx249_2, hx249_3, hx249_4, hl249_2, hi249_2⟩ := at_T48 HR0.out x5_1 p249 q249
              obtain rfl : ad248 = ad249 := (by injection e249)
              replace hx249_0 := (HB.out.cell (World.block_lt_of_cell? w _ hx249_0)).trans hx249_0
              replace hx249_1 := (HB.out.cell (World.block_lt_of_cell? w _ hx249_1)).trans hx249_1
              replace hx249_2 := (HB.out.cell (World.block_lt_of_cell? w _ hx249_2)).trans hx249_2
              replace hx249_3 := (HB.out.cell (World.block_lt_of_cell? w _ hx249_3)).trans hx249_3
              replace hx249_4 := (HB.out.cell (World.block_lt_of_cell? w _ hx249_4)).trans hx249_4
              have HR249_2 := Aside0.mk hi249_2
              have HC249_2 := Aside0.mk hl249_2
              clear hi249_2 hl249_2
              replace p249 := eq_true p249
              replace q249 := eq_true q249
              have ea_ := Option.some.inj (hx248_2.symm.trans hx249_2)
              injection ea_ with ea_ en_ ec_
              subst ea_
              subst ec_
              clear en_
              go_wp2
              repeat (go_quiet (fail); try go_wp2)
              go_roundg k1
              case measure => have := HK1.out; omega
              case rel => exact ⟨(wrap64 (x5_1 + 1)), (by first | rfl | (simp; done) | (simp [*]; done)), H', ⟨by have := HK1.out; omega⟩, ⟨by (with_reducible repeat (first | refine blk_drewN ?_ _ | refine blk_drew ?_ | refine blk_alloc ?_ _)); exact BK247.out⟩, ⟨by repeat (first | (with_reducible first | exact HB.out | apply below_alloc | apply pw_below_drewN | apply below_drew1 | refine below_set ?_ GE247.out) | exact HB.out)⟩⟩
          · rw [if_neg c6] at H
            have c6b0 : (((rd_T48 l0 x5_1).f3) == a1_3) = false := beq_eq_false_iff_ne.mpr c6
            have c6b1 : (((rd_T48 l0 x5_1).f3) != a1_3) = true := bne_iff_ne.mpr c6
            have H' := Aside0.mk H
            clear H
            have p248 : 0 ≤ (x5_1 : Int) := of_decide_eq_true (by first | (with_reducible assumption) | assumption)
            have q248 : x5_1 < (l0.length : Int) := of_decide_eq_true (by first | (with_reducible assumption) | assumption)
            obtain ⟨ad248, A248_2, c248_2, e248, hx248_0, hx248_1, hx248_2, hx248_3, hx248_4, hl248_2, hi248_2⟩ := at_T48 HR0.out x5_1 p248 q248
            cases e248
            replace hx248_0 := (HB.out.cell (World.block_lt_of_cell? w _ hx248_0)).trans hx248_0
            replace hx248_1 := (HB.out.cell (World.block_lt_of_cell? w _ hx248_1)).trans hx248_1
            replace hx248_2 := (HB.out.cell (World.block_lt_of_cell? w _ hx248_2)).trans hx248_2
            replace hx248_3 := (HB.out.cell (World.block_lt_of_cell? w _ hx248_3)).trans hx248_3
            replace hx248_4 := (HB.out.cell (World.block_lt_of_cell? w _ hx248_4)).trans hx248_4
            have HR248_2 := Aside0.mk hi248_2
            have HC248_2 := Aside0.mk hl248_2
            clear hi248_2 hl248_2
            replace p248 := eq_true p248
            replace q248 := eq_true q248
            have hcz10_0 : wr.cell? ⟨gb247, 0, none⟩ = some (.int .u64 a1_0) := (blk_cell BK247.out 0).trans rfl
            have hcz10_1 : wr.cell? ⟨gb247, 1, none⟩ = some (.string a1_1) := (blk_cell BK247.out 1).trans rfl
            have hcz10_2 : wr.cell? ⟨gb247, 2, none⟩ = some (.slice A1_2 l1_2.length c1_2) := (blk_cell BK247.out 2).trans rfl
            have hcz10_3 : wr.cell? ⟨gb247, 3, none⟩ = some (.int .u64 a1_3) := (blk_cell BK247.out 3).trans rfl
            have hcz10_4 : wr.cell? ⟨gb247, 4, none⟩ = some (.int .u64 a1_4) := (blk_cell BK247.out 4).trans rfl
            have hfz10_0 := blk_frozen BK247.out 0
            have hfz10_1 := blk_frozen BK247.out 1
            have hfz10_2 := blk_frozen BK247.out 2
            have hfz10_3 := blk_frozen BK247.out 3
            have hfz10_4 := blk_frozen BK247.out 4
            go_wp2
            repeat (go_quiet (fail); try go_wp2)
            go_roundg k1
            case measure => have := HK1.out; omega
            case rel => exact ⟨(wrap64 (x5_1 + 1)), (by first | rfl | (simp; done) | (simp [*]; done)), H', ⟨by have := HK1.out; omega⟩, ⟨by (with_reducible repeat (first | refine blk_drewN ?_ _ | refine blk_drew ?_ | refine blk_alloc ?_ _)); exact BK247.out⟩, ⟨by repeat (first | (with_reducible first | exact HB.out | apply below_alloc | apply pw_below_drewN | apply below_drew1 | refine below_set ?_ GE247.out) | exact HB.out)⟩⟩
        · rw [if_neg c5] at H
          exact absurd H (by simp)
      · rw [if_neg c4] at H
        have c4b0 : decide (x5_1 < (l0.length : Int)) = false := decide_eq_false c4
        clear c4
        obtain rfl := Option.some.inj H
        go_wp2
        repeat (go_quiet (fail); try go_wp2)
        go_ret
        exact ⟨by first | rfl | (simp [errW_none, errW_some] <;> rfl) | (simp [*, errW_none, errW_some] <;> rfl), by repeat (first | (with_reducible first | exact HB.out | apply below_alloc | apply pw_below_drewN | apply below_drew1 | refine below_set ?_ GE247.out) | exact HB.out)⟩

end Go.Proofs.YtkmffeicgpocgaaDoor.P
