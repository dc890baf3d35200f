/-
  side.wait, and what it hands to slices.ContainsFunc: has another list one of the same producer with a lower number?
-/
import Derived.Test.YtkmffeicgpocgaaDoorPx0
namespace Go.Proofs.YtkmffeicgpocgaaDoor.P
open Go.RowKit Go.Proofs.YtkmffeicgpocgaaDoorW.PrintWords Go.Proofs.YtkmffeicgpocgaaDoorW.PrintLast Go.Proofs.YtkmffeicgpocgaaDoorW.PrintMore
/-- of x's producer, with a lower number -/
def lowP (x3 x4 : Int) (y : S48) : Bool := y.f3 == x3 && decide (y.f4 < x4)
set_option maxHeartbeats 1000000 in
theorem wait1_calls (y : S48) (A : Option Addr) (n c gx : Nat) (x0 : Int) (xk : ByteArray) (xv : Value) (x3 x4 : Int) (w : World)
    (hx : w.heap[gx]? = some (.cells #[.int .u64 x0, .string xk, xv, .int .u64 x3, .int .u64 x4] 48 (0, 0))) :
    Calls Tryd.prog 52 #[.agg #[.int .u64 y.f0, .string y.f1, .slice A n c, .int .u64 y.f3, .int .u64 y.f4], .pointer (some ⟨gx, 0, none⟩)] w
      fun e w' => e = .returned (.bool (lowP x3 x4 y)) ∧ Below w.heap.size w w' := by
  have hlt := blk_lt hx
  have c3 : w.cell? ⟨gx, 3, none⟩ = some (.int .u64 x3) := (blk_cell hx 3).trans rfl
  have c4 : w.cell? ⟨gx, 4, none⟩ = some (.int .u64 x4) := (blk_cell hx 4).trans rfl
  clear hx
  by_cases h3 : y.f3 = x3
  · have b3 : (y.f3 == x3) = true := by simp [h3]
    have hfin : lowP x3 x4 y = decide (y.f4 < x4) := by simp [lowP, h3]
    have H := Aside0.mk hfin
    clear hfin h3
    by_cases h4 : y.f4 < x4
    all_goals
      go_enter Tryd.func52, Tryd.ntmps52
      go_wp2
      go_ret
      exact ⟨by rw [H.out]; simp [h4], (Below.refl _ _).alloc (Nat.le_refl _) _⟩
  · have b3 : (y.f3 == x3) = false := by simp [h3]
    have H := Aside0.mk (show lowP x3 x4 y = false by simp [lowP, h3])
    clear h3
    go_enter Tryd.func52, Tryd.ntmps52
    go_wp2
    go_ret
    exact ⟨by rw [H.out]; rfl, (Below.refl _ _).alloc (Nat.le_refl _) _⟩
/-- slices.IndexFunc over records, at a function value that tells p. -/
def idxOf (p : S48 → Bool) (l : List S48) : Int := match l.findIdx? p with | some i => i | none => -1
set_option maxHeartbeats 1000000 in
theorem index_calls (gx : Nat) (p : S48 → Bool) (A0 : Option Addr) (c0 : Nat) (l0 : List S48) (w : World) (hr0 : Kd.C k48 w A0 l0.length l0)
    (hp : ∀ (W : World) (y : S48) (A : Option Addr) (n c : Nat), Below w.heap.size w W →
      Calls Tryd.prog 52 #[.agg #[.int .u64 y.f0, .string y.f1, .slice A n c, .int .u64 y.f3, .int .u64 y.f4], .pointer (some ⟨gx, 0, none⟩)] W fun e w' => e = .returned (.bool (p y)) ∧ Below W.heap.size W w') :
    Calls Tryd.prog 69 #[.slice A0 l0.length c0, .func (.func 52) #[] #[.pointer (some ⟨gx, 0, none⟩)]] w fun e w' => e = .returned (.int .i64 (idxOf p l0)) ∧ Below w.heap.size w w' := by
  have HR := Aside0.mk hr0
  have HP := Aside0.mk hp
  clear hr0 hp
  have hmax := HR.out.2.1
  go_enter Tryd.func69, Tryd.ntmps69
  go_wp2
  go_loopw [8] (fun i wr => ∃ k : Nat, i = .int .i64 k ∧ k ≤ l0.length ∧ Aside0 (∀ j, j < k → ∀ y, l0[j]? = some y → p y = false) ∧ Aside0 (Below w.heap.size w wr)) (fun i _ => l0.length - (intOf i).toNat)
  case atStart => exact ⟨0, rfl, Nat.zero_le _, ⟨fun j hj => by omega⟩, ⟨Below.refl _ _⟩⟩
  case round =>
    obtain ⟨k, rfl, hk, HN, HB⟩ := hrel
    by_cases hlt : k < l0.length
    · obtain ⟨ad, A2, c2, e, hx0, hx1, hx2, hx3, hx4, hl2, hi2⟩ := at_T48 HR.out (k : Int) (by omega) (by omega)
      subst e
      simp only [Int.toNat_natCast] at hx0 hx1 hx2 hx3 hx4
      replace hx0 := (HB.out.cell (World.block_lt_of_cell? w _ hx0)).trans hx0
      replace hx1 := (HB.out.cell (World.block_lt_of_cell? w _ hx1)).trans hx1
      replace hx2 := (HB.out.cell (World.block_lt_of_cell? w _ hx2)).trans hx2
      replace hx3 := (HB.out.cell (World.block_lt_of_cell? w _ hx3)).trans hx3
      replace hx4 := (HB.out.cell (World.block_lt_of_cell? w _ hx4)).trans hx4
      clear hl2 hi2
      have hget : l0[k]? = some (rd_T48 l0 (k : Int)) := by
        unfold rd_T48
        rw [Int.toNat_natCast, List.getD_eq_getElem?_getD, List.getElem?_eq_getElem hlt]
        rfl
      have HG := Aside0.mk hget
      clear hget
      by_cases hpv : p (rd_T48 l0 (k : Int)) = true
      · have HV := Aside0.mk hpv
        clear hpv
        go_wp2_with fail
        refine (HP.out wr (rd_T48 l0 (k : Int)) A2 _ c2 HB.out).mono ?_
        rintro e w2 ⟨he, hb⟩
        rw [HV.out] at he
        subst he
        have HB2 := Aside0.mk (below_step HB.out hb)
        clear hb
        go_wp2
        go_ret
        refine ⟨?_, HB2.out⟩
        have hf : l0.findIdx? p = some k := by
          rw [List.findIdx?_eq_some_iff_getElem]
          refine ⟨hlt, ?_, fun j hj => ?_⟩
          · have := HG.out
            rw [List.getElem?_eq_getElem hlt] at this
            rw [Option.some.inj this]
            exact HV.out
          · have := HN.out j hj _ (List.getElem?_eq_getElem (by omega))
            simp [this]
        simp [idxOf, hf]
      · have HV := Aside0.mk (Bool.eq_false_iff.mpr hpv)
        clear hpv
        go_wp2_with fail
        refine (HP.out wr (rd_T48 l0 (k : Int)) A2 _ c2 HB.out).mono ?_
        rintro e w2 ⟨he, hb⟩
        rw [HV.out] at he
        subst he
        have HB2 := Aside0.mk (below_step HB.out hb)
        clear hb
        go_wp2
        go_roundw
        case rel =>
          refine ⟨k + 1, by go_num, by omega, ⟨fun j hj y hy => ?_⟩, HB2⟩
          by_cases hjk : j = k
          · subst hjk
            rw [HG.out] at hy
            rw [← Option.some.inj hy]
            exact HV.out
          · exact HN.out j (by omega) y hy
        case measure => simp [intOf]; omega
    · go_wp2
      go_ret
      refine ⟨?_, HB.out⟩
      have hf : l0.findIdx? p = none := by
        rw [List.findIdx?_eq_none_iff]
        intro y hy
        obtain ⟨j, hj, rfl⟩ := List.getElem_of_mem hy
        exact HN.out j (by omega) _ (List.getElem?_eq_getElem hj)
      simp [idxOf, hf]
theorem idxOf_any (p : S48 → Bool) (l : List S48) : decide (0 ≤ idxOf p l) = l.any p := by
  unfold idxOf
  cases h : l.findIdx? p with
  | none =>
    rw [List.findIdx?_eq_none_iff] at h
    have : l.any p = false := by
      rw [List.any_eq_false]
      intro x hx
      simp [h x hx]
    simp [this]
  | some i =>
    rw [List.findIdx?_eq_some_iff_getElem] at h
    obtain ⟨hi, hp, _⟩ := h
    have : l.any p = true := List.any_eq_true.mpr ⟨l[i], List.getElem_mem hi, hp⟩
    simp [this]
set_option maxHeartbeats 1000000 in
theorem contains_calls (gx : Nat) (p : S48 → Bool) (A0 : Option Addr) (c0 : Nat) (l0 : List S48) (w : World) (hr0 : Kd.C k48 w A0 l0.length l0)
    (hp : ∀ (W : World) (y : S48) (A : Option Addr) (n c : Nat), Below w.heap.size w W →
      Calls Tryd.prog 52 #[.agg #[.int .u64 y.f0, .string y.f1, .slice A n c, .int .u64 y.f3, .int .u64 y.f4], .pointer (some ⟨gx, 0, none⟩)] W fun e w' => e = .returned (.bool (p y)) ∧ Below W.heap.size W w') :
    Calls Tryd.prog 51 #[.slice A0 l0.length c0, .func (.func 52) #[] #[.pointer (some ⟨gx, 0, none⟩)]] w fun e w' => e = .returned (.bool (l0.any p)) ∧ Below w.heap.size w w' := by
  have hi := index_calls gx p A0 c0 l0 w hr0 hp
  have HI := Aside0.mk hi
  have HF := Aside0.mk (idxOf_any p l0)
  clear hi hr0 hp
  obtain ⟨z, hz⟩ : ∃ z, z = idxOf p l0 := ⟨_, rfl⟩
  rw [← hz] at HI HF
  clear hz
  by_cases h0 : 0 ≤ z
  all_goals
    go_enter Tryd.func51, Tryd.ntmps51
    go_wp2_with fail
    refine (HI.out).mono ?_
    rintro e w2 ⟨rfl, hb⟩
    go_wp2
    go_ret
    exact ⟨by rw [← HF.out]; simp [h0], hb⟩
set_option maxHeartbeats 1000000 in
theorem wait_calls (gs go : Nat) (A1 A2 : Option Addr) (c1 c2 : Nat) (l1 l2 : List S48) (t1 t2 : Value) (w : World)
    (hs : w.heap[gs]? = some (.cells #[.slice A1 l1.length c1, t1] 59 (0, 0))) (ho : w.heap[go]? = some (.cells #[.slice A2 l2.length c2, t2] 59 (0, 0)))
    (h1 : Kd.C k48 w A1 l1.length l1) (h2 : Kd.C k48 w A2 l2.length l2) (hp : 0 < l1.length) :
    Calls Tryd.prog 29 #[.pointer (some ⟨gs, 0, none⟩), .pointer (some ⟨go, 0, none⟩)] w fun e w' => e = .returned (.bool (l2.any (lowP (rd_T48 l1 0).f3 (rd_T48 l1 0).f4))) ∧ Below w.heap.size w w' := by
  obtain ⟨ad, A3, c3, e, hx0, hx1, hx2, hx3, hx4, hl2, hi2⟩ := at_T48 h1 0 (by omega) (by omega)
  subst e
  have cs : w.cell? ⟨gs, 0, none⟩ = some (.slice (some ad) l1.length c1) := (blk_cell hs 0).trans rfl
  have co : w.cell? ⟨go, 0, none⟩ = some (.slice A2 l2.length c2) := (blk_cell ho 0).trans rfl
  have lo := blk_lt ho
  have H2 := Aside0.mk h2
  have hnil : ¬ l1 = [] := fun h => by subst h; simp at hp
  simp only [Int.toNat_zero, Nat.zero_mul, Addr.add_zero'] at hx0 hx1 hx2 hx3 hx4
  clear hs ho h1 h2 hl2 hi2
  go_enter Tryd.func29, Tryd.ntmps29
  go_wp2_with fail
  refine (contains_calls w.heap.size (lowP (rd_T48 l1 0).f3 (rd_T48 l1 0).f4) A2 c2 l2 _ (Kd.C_alloc H2.out _) (fun W y A n c hb => wait1_calls y A n c w.heap.size _ _ _ _ _ W ((hb.block w.heap.size (by simp)).trans (heap_alloc_new w _)))).mono ?_
  rintro e w2 ⟨rfl, hb⟩
  go_wp2
  go_ret
  exact ⟨rfl, below_step (below_alloc (Below.refl _ _) _) hb⟩
end Go.Proofs.YtkmffeicgpocgaaDoor.P
