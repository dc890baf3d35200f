/-
  gazettelaw14.lives; records.Join whole.
-/
import Derived.Test.YtkmffeicgpocgaaDoorHName
import Derived.Test.YtkmffeicgpocgaaDoorHJoin
namespace Go.Proofs.YtkmffeicgpocgaaDoor.P
open Go.RowKit Go.Proofs.YtkmffeicgpocgaaDoorW.PrintWords Go.Proofs.YtkmffeicgpocgaaDoorW.PrintLast Go.Proofs.YtkmffeicgpocgaaDoorW.PrintMore
set_option maxHeartbeats 4000000 in
theorem lives_calls (w : World) : Calls Tryd.prog 5 #[] w fun e w' => e = .returned (.bool true) ∧ Below w.heap.size w w' := by
  have HA := Aside0.mk (records_Append.calls 5 none 0 [] 0 ⟨#[107]⟩ none 0 [] 0 0 [⟨0, ⟨#[107]⟩, [], 0, 0⟩] 0 0 w (Kd.C_nil _ _) (Nat.le_refl _) (Kd.C_nil _ _) (Nat.le_refl _) (by kernel_rfl))
  go_enter Tryd.func5, Tryd.ntmps5
  go_wp2_with fail
  refine HA.out.mono ?_
  rintro e w1 ⟨v0, rfl, hs, hb⟩
  obtain ⟨A, c, rfl, hc, hC⟩ := Kd.R_reads (Kd.S_R hs)
  obtain ⟨ad, A2, c2, e, hx0, hx1, hx2, hx3, hx4, hl2, hi2⟩ := at_T48 hC 0 (by decide) (by decide)
  subst e
  simp only [Int.toNat_zero, Nat.zero_mul, Addr.add_zero'] at hx0 hx1 hx2 hx3 hx4
  have hx1' : w1.cell? ⟨ad.block, ad.off + 1, none⟩ = some (.string ⟨#[107]⟩) := hx1
  have HB := Aside0.mk hb
  have HNM := Aside0.mk (name_calls ⟨#[97, 45, 49]⟩ w1)
  clear hb hs hC hx0 hx1 hx2 hx3 hx4 hi2 hl2
  go_wp2_with fail
  refine HNM.out.mono ?_
  rintro e w2 ⟨rfl, hb2⟩
  rw [show nameP ⟨#[97, 45, 49]⟩ = true from by decide]
  have HB2 := Aside0.mk (below_step HB.out hb2)
  clear hb2
  go_wp2
  go_ret
  exact ⟨rfl, HB2.out⟩
end Go.Proofs.YtkmffeicgpocgaaDoor.P
