/-
  Lemmas of ours beside the printed words: make([]T, 0, n) as a row of the call's own; rows told with their spare places.
-/
import Derived.Test.YtkmffeicgpocgaaDoorWWords
import Derived.Test.YtkmffeicgpocgaaDoorWApart
namespace Go.Proofs.YtkmffeicgpocgaaDoorW.PrintWords
open Go.RowKit
theorem bytesLess_irrefl' (x : List UInt8) : Op.bytesLess x x = false := by
  induction x with
  | nil => rfl
  | cons a l ih => simp [Op.bytesLess, ih]
theorem bytesLess_tri (x y : List UInt8) : (Op.bytesLess x y || x == y) = !Op.bytesLess y x := by
  induction x generalizing y with
  | nil => cases y <;> simp [Op.bytesLess]
  | cons a l ih =>
    cases y with
    | nil => simp [Op.bytesLess]
    | cons b m =>
      have h := ih m
      simp only [Op.bytesLess]
      rcases Nat.lt_trichotomy a.toNat b.toNat with hl | he | hg
      · have h1 : a < b := hl
        have h2 : ¬ b < a := fun h => by have := UInt8.lt_iff_toNat_lt.1 h; omega
        have h3 : b ≠ a := fun e => by subst e; omega
        simp [h1, h2, h3]
      · have e : a = b := UInt8.toNat_inj.1 he
        subst e
        have hi : ¬ a < a := fun h => by have := UInt8.lt_iff_toNat_lt.1 h; omega
        simp [hi]
        simpa using h
      · have h1 : b < a := hg
        have h2 : ¬ a < b := fun h => by have := UInt8.lt_iff_toNat_lt.1 h; omega
        have h3 : a ≠ b := fun e => by subst e; omega
        simp [h1, h2, h3]
/-- '<=', '>=', '>' on strings, as the printed functions spell them. -/
@[go_sem] theorem binOp_string_leq' (t : TypeId) (a b : ByteArray) : binOp .leq t (.string a) (.string b) = pure (.bool (!Op.bytesLess b.toList a.toList)) := by
  simp only [← bytesLess_tri]
  simp [binOp, Op.stringOp]
@[go_sem] theorem binOp_string_geq' (t : TypeId) (a b : ByteArray) : binOp .geq t (.string a) (.string b) = pure (.bool (!Op.bytesLess a.toList b.toList)) := by simp [binOp, Op.stringOp]
@[go_sem] theorem binOp_string_gtr' (t : TypeId) (a b : ByteArray) : binOp .gtr t (.string a) (.string b) = pure (.bool (Op.bytesLess b.toList a.toList)) := by
  have h := bytesLess_tri a.toList b.toList
  have : Op.bytesLess b.toList a.toList = !(Op.bytesLess a.toList b.toList || a.toList == b.toList) := by rw [h]; simp
  rw [this]
  simp [binOp, Op.stringOp]
namespace Kd
section
variable {P : Program} {ops : Array Oper} {rest : List Oper} {o : Oper} {a : Act} {Q : Exit → Act → World → Prop}
/-- make([]T, 0, n). -/
theorem R_make0 {α : Type} (d : Kd α) {w0 W : World} (base e : Nat) (hgd : o.guard = none) {N : Tmp} (_hd : o.dst = some N) (t : TypeId) (x y : Operand) (ho : o.op = .makeSlice t x y) (n : Int) (hx : a.eval x = .int .i64 0) (hy : a.eval y = .int .i64 n)
    (ht : P.underlying t = some (.slice e)) (z : Value) (bytes : Nat) (hinfo : (P.info? e).map (fun i => (i.zero, i.size, i.bytes)) = some (some z, d.sz, bytes)) (_hz : z.cells.size = d.sz) (_hs0 : 0 < d.sz) (hb0 : 0 < bytes)
    (z0 : α) {ok okp : Nat → Prop} (_hzero : d.M W base okp z0 z.cells.toList) (_hok : ∀ k, okp k → ok k) (hfresh : ok W.heap.size) (h0 : 0 ≤ n) (hl : n.toNat * bytes ≤ 281474976710656) (HB : Below base w0 W) (hbase : base ≤ W.heap.size)
    (h : ∀ v1 w1, d.R e w1 base ok v1 ([] : List α) → Below base w0 w1 → W.grownBy w1 none → (∃ b, v1.ownBlock = some b ∧ W.heap.size ≤ b) → wpList P ops Q rest (a.put o.dst v1) w1) : wpList P ops Q (o :: rest) a W := by
  obtain ⟨m, rfl⟩ := Int.eq_ofNat_of_zero_le h0
  simp only [Int.toNat_natCast] at hl
  obtain ⟨i0, hi, hzz⟩ := Option.map_eq_some_iff.1 hinfo
  simp only [Prod.mk.injEq] at hzz
  obtain ⟨hz0, hz1, hz2⟩ := hzz
  have hm : m ≤ 281474976710656 := Nat.le_trans (Nat.le_mul_of_pos_right _ hb0) hl
  have hr := run_make (P := P) W t e i0 z ht hi hz0 .i64 .i64 (0 : Int) (m : Int) (by omega) (by omega)
    (by
      have h3 : ((i0.bytes * m : Nat) : Int) ≤ 281474976710656 := by rw [hz2, Nat.mul_comm]; omega
      rwa [Int.natCast_mul] at h3) (by omega)
  simp only [Int.toNat_natCast, Int.toNat_zero] at hr
  rw [hz1] at hr
  have hown : (W.alloc (.cells (madeCells z.cells (m * d.sz)) e)).ownsRow base e d.sz (.slice (some ⟨W.heap.size, 0, none⟩) 0 m) 0 [] :=
    World.ownsRow_made W _ m hbase (by simp only [maxLen]; omega) (by simp [madeCells])
  have hR : d.R e (W.alloc (.cells (madeCells z.cells (m * d.sz)) e)) base ok (.slice (some ⟨W.heap.size, 0, none⟩) 0 m) [] := by
    refine ⟨fun k hk => ?_, [], ?_, Reps.none _ _⟩
    · have : W.heap.size = k := by simpa [Value.ownBlock] using hk
      subst this
      exact hfresh
    · exact hown
  have hrun : (execOp a.eval o).run P W = .ok (.value (.slice (some ⟨W.heap.size, 0, none⟩) 0 m)) (W.alloc (.cells (madeCells z.cells (m * d.sz)) e)) := by
    simp [execOp, ho, hx, hy, hr]
  refine wpList_plain hgd fun K hK => ?_
  unfold Oper.wp
  rw [hrun]
  exact hK _ _ (h _ _ hR (HB.alloc hbase _) (World.grownBy_alloc W _ _) ⟨W.heap.size, by simp [Value.ownBlock], Nat.le_refl _⟩)
theorem S_make0 {α : Type} (d : Kd α) {w0 W : World} (base e : Nat) (hgd : o.guard = none) {N : Tmp} (hd : o.dst = some N) (t : TypeId) (x y : Operand) (ho : o.op = .makeSlice t x y) (n : Int) (hx : a.eval x = .int .i64 0) (hy : a.eval y = .int .i64 n)
    (ht : P.underlying t = some (.slice e)) (z : Value) (bytes : Nat) (hinfo : (P.info? e).map (fun i => (i.zero, i.size, i.bytes)) = some (some z, d.sz, bytes)) (hz : z.cells.size = d.sz) (hs0 : 0 < d.sz) (hb0 : 0 < bytes)
    (z0 : α) {ok okp : Nat → Prop} (hzero : d.M W base (fun _ => False) z0 z.cells.toList) (_hok : ∀ k, okp k → ok k) (hfresh : ok W.heap.size) (h0 : 0 ≤ n) (hl : n.toNat * bytes ≤ 281474976710656) (HB : Below base w0 W) (hbase : base ≤ W.heap.size)
    (h : ∀ v1 w1, S d e w1 base ok v1 ([] : List α) → Below base w0 w1 → W.grownBy w1 none → (∃ b, v1.ownBlock = some b ∧ W.heap.size ≤ b) → wpList P ops Q rest (a.put o.dst v1) w1) : wpList P ops Q (o :: rest) a W :=
  R_make0 (bare d) base e hgd hd t x y ho n hx hy ht z bytes hinfo hz hs0 hb0 z0 (ok := ok) (okp := ok) hzero (fun _ hk => hk) hfresh h0 hl HB hbase (fun v1 w1 hr => h v1 w1 (S_bare hr))
end
end Kd
end Go.Proofs.YtkmffeicgpocgaaDoorW.PrintWords
