/-
  strings.Trim at a cutset of two or more ASCII bytes; records.Name.
-/
import Derived.Test.YtkmffeicgpocgaaDoorHTrim
namespace Go.Proofs.YtkmffeicgpocgaaDoor.P
open Go.RowKit Go.Proofs.YtkmffeicgpocgaaDoorW.PrintWords Go.Proofs.YtkmffeicgpocgaaDoorW.PrintLast Go.Proofs.YtkmffeicgpocgaaDoorW.PrintMore
theorem size_pos_of_ne {s : ByteArray} (h : s ≠ ⟨#[]⟩) : 0 < s.size := by
  rcases Nat.eq_zero_or_pos s.size with h0 | h0
  · exact absurd (by cases s with | mk d => exact congrArg ByteArray.mk (Array.eq_empty_of_size_eq_zero h0)) h
  · exact h0
theorem toList_ne {s : ByteArray} (h : 0 < s.size) : s.toList.isEmpty = false := by
  rw [ByteArray.toList_eq]
  cases hd : s.data.toList with
  | nil => rw [Lib.size_eq, hd] at h; exact absurd h (Nat.lt_irrefl 0)
  | cons x r => rfl
set_option maxHeartbeats 4000000 in
set_option maxRecDepth 1000000 in
theorem trim_calls (s chars : ByteArray) (w : World) (hne : s ≠ ⟨#[]⟩) (hs : s.size ≤ 9223372036854775807) (h2 : 2 ≤ chars.size) (hc : chars.size < 4294967281) (hascii : ∀ (j : Nat) b, chars.data.toList[j]? = some b → b.toNat < 128) :
    Calls Tryd.prog 49 #[.string s, .string chars] w fun e w' => e = .returned (.string ⟨(Lib.trimS s.data.toList chars.data.toList).toArray⟩) ∧ Below w.heap.size w w' := by
  have hsz := Lib.setCells_size chars.data.toList
  have hi116 : (Tryd.prog.info? 100).map (·.size) = some 256 := by kernel_rfl
  have HM := Aside0.mk (set_make chars w hc hascii)
  have hl1 : s.toList.isEmpty = false := toList_ne (size_pos_of_ne hne)
  have hl2 : chars.toList.isEmpty = false := toList_ne (by omega)
  have hne2 : ¬ chars = ⟨#[]⟩ := fun h => by rw [h] at h2; exact absurd h2 (by decide)
  have e3 : decide ((chars.size : Int) = 1) = false := decide_eq_false (by omega)
  have e4 : ((chars.size : Int) == 1) = false := beq_eq_false_iff_ne.mpr (by omega)
  have hstore := run_storeCells_new (P := Tryd.prog) (w.alloc (.cells (Lib.setCells chars.data.toList) 100)) 100 Tryd.zeroCells100 (Lib.setCells chars.data.toList) (by rw [hsz]; exact hi116) (by rw [hsz]; kernel_rfl) (Lib.setCells_one _)
  rw [show (w.alloc (.cells (Lib.setCells chars.data.toList) 100)).heap.size = w.heap.size + 1 from by simp] at hstore
  clear hascii
  go_enter Tryd.func49, Tryd.ntmps49
  go_wp2_with fail
  refine HM.out.mono ?_
  rintro e w1 ⟨rfl, rfl⟩
  have hset : ∀ x : UInt8, ((w.alloc (.cells (Lib.setCells chars.data.toList) 100)).alloc (.cells (Lib.setCells chars.data.toList) 100)).cell? ⟨w.heap.size + 1, x.toNat, none⟩ = some (.bool (chars.data.toList.contains x)) := fun x =>
    (blk_cell (by simpa using heap_alloc_new (w.alloc (.cells (Lib.setCells chars.data.toList) 100)) (.cells (Lib.setCells chars.data.toList) 100)) x.toNat).trans (Lib.setCells_at _ x)
  have HS := Aside0.mk hset
  clear hset HM
  go_wp2_with fail
  refine (set_right s _ chars.data.toList _ hs HS.out).mono ?_
  rintro e w2 ⟨rfl, rfl⟩
  go_wp2_with fail
  refine (set_left _ _ chars.data.toList _ HS.out).mono ?_
  rintro e w2 ⟨rfl, rfl⟩
  go_wp2
  go_ret
  exact ⟨rfl, below_alloc (below_alloc (Below.refl _ _) _) _⟩
/-- What a name is, bytes: one or more, at most 32, each of the set. -/
def nameSet : List UInt8 := [97, 98, 99, 100, 101, 102, 103, 104, 105, 106, 107, 108, 109, 110, 111, 112, 113, 114, 115, 116, 117, 118, 119, 120, 121, 122, 48, 49, 50, 51, 52, 53, 54, 55, 56, 57, 45, 95, 46]
def nameP (s : ByteArray) : Bool := decide (0 < s.size) && decide (s.size ≤ 32) && s.data.toList.all (nameSet.contains ·)
theorem dw_nil {α : Type} (p : α → Bool) : ∀ l : List α, l.dropWhile p = [] ↔ ∀ x ∈ l, p x = true
  | [] => by simp
  | x :: r => by
    rw [List.dropWhile_cons]
    by_cases h : p x = true
    · rw [if_pos h, dw_nil p r]
      simp [h]
    · rw [if_neg h]
      simp [h]
theorem dw_head {α : Type} (p : α → Bool) : ∀ l : List α, l.dropWhile p = [] ∨ ∃ y r, l.dropWhile p = y :: r ∧ p y = false
  | [] => .inl rfl
  | x :: r => by
    rw [List.dropWhile_cons]
    by_cases h : p x = true
    · rw [if_pos h]
      exact dw_head p r
    · rw [if_neg h]
      exact .inr ⟨x, r, rfl, by simpa using h⟩
theorem trimS_nil (cs : List UInt8) : ∀ l : List UInt8, (Lib.trimS l cs).isEmpty = l.all (cs.contains ·) := by
  intro l
  unfold Lib.trimS Lib.trimLeftS Lib.trimRightS
  rw [Bool.eq_iff_iff, List.isEmpty_iff, List.all_eq_true]
  rcases dw_head (cs.contains ·) l.reverse with h | ⟨y, r, h, hy⟩
  · rw [h]
    have h' := (dw_nil _ _).1 h
    simp only [List.reverse_nil, List.dropWhile_nil, true_iff]
    exact fun x hx => h' x (List.mem_reverse.2 hx)
  · constructor
    · intro h2
      have h3 := (dw_nil _ _).1 h2 y (by rw [h]; simp)
      have hy : cs.contains y = false := hy
      have h3 : cs.contains y = true := h3
      rw [hy] at h3
      cases h3
    · intro h2
      have : y ∈ l.reverse := (List.dropWhile_sublist _).mem (by rw [h]; exact List.mem_cons_self)
      have h3 := h2 y (List.mem_reverse.1 this)
      have hy : cs.contains y = false := hy
      have h3 : cs.contains y = true := h3
      rw [hy] at h3
      cases h3
set_option maxHeartbeats 4000000 in
set_option maxRecDepth 1000000 in
theorem name_calls (s : ByteArray) (w : World) : Calls Tryd.prog 20 #[.string s] w fun e w' => e = .returned (.bool (nameP s)) ∧ Below w.heap.size w w' := by
  by_cases h0 : s = ⟨#[]⟩
  · subst h0
    go_enter Tryd.func20, Tryd.ntmps20
    go_wp2
    go_ret
    exact ⟨by rfl, Below.refl _ _⟩
  · have hp := size_pos_of_ne h0
    have hl1 : s.toList.isEmpty = false := toList_ne hp
    by_cases h1 : s.size ≤ 32
    · have hle : decide ((s.size : Int) ≤ 32) = true := decide_eq_true (by omega)
      have hfin : nameP s = (Lib.trimS s.data.toList nameSet).isEmpty := by rw [trimS_nil]; simp [nameP, hp, h1]
      have HF := Aside0.mk hfin
      have HT := Aside0.mk (trim_calls s ⟨nameSet.toArray⟩ w h0 (by omega) (by decide) (by decide) (fun j b hb => by
        have hm : b ∈ nameSet := List.mem_of_getElem? hb
        clear hb
        revert b
        decide))
      clear hfin h0
      go_enter Tryd.func20, Tryd.ntmps20
      go_wp2_with fail
      refine HT.out.mono ?_
      rintro e w1 ⟨rfl, hb⟩
      have HB := Aside0.mk hb
      clear hb
      go_wp2
      go_ret
      refine ⟨?_, HB.out⟩
      rw [HF.out]
      simp
    · have hle : decide ((s.size : Int) ≤ 32) = false := decide_eq_false (by omega)
      have hfin : nameP s = false := by simp [nameP, h1]
      have HF := Aside0.mk hfin
      clear hfin
      go_enter Tryd.func20, Tryd.ntmps20
      go_wp2
      go_ret
      exact ⟨by rw [HF.out]; rfl, Below.refl _ _⟩
end Go.Proofs.YtkmffeicgpocgaaDoor.P
