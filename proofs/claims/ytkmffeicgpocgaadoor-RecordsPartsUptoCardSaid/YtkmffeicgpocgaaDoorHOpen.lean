/-
  What an argument reads as, by kinds: a reading (DataW.trod) of a type that a kind 'opens' gives the value, where it lies, and a bound on its size by the reading's bulk.
-/
import Derived.Test.YtkmffeicgpocgaaDoorPx0
import Derived.Test.YtkmffeicgpocgaaDoorRows
import Derived.Deep.Slices
import Derived.ChangeArms
import Derived.ChangeSame
namespace Go.Proofs.YtkmffeicgpocgaaDoor.P
open Go.ChangeShapes Go.WideShapes Go.Deep Go.RowKit Go.Proofs.YtkmffeicgpocgaaDoorW.PrintWords Go.Proofs.YtkmffeicgpocgaaDoorW.PrintLast Go.Proofs.YtkmffeicgpocgaaDoorW.PrintMore
open _root_.Go.Proofs.YtkmffeicgpocgaaDoor.Rows (uptoBulk uptoBulkAll)
theorem bulk_append {H : Type} (l r : List (DataW H)) : uptoBulkAll (l ++ r) = uptoBulkAll l + uptoBulkAll r := by
  induction l with
  | nil => simp [uptoBulkAll]
  | cons x l ih => simp only [List.cons_append, uptoBulkAll, ih]; omega
/-- How much a list holds: its length, and what its elements hold. -/
def mbList {α : Type} (mb : α → Nat) : List α → Nat
  | [] => 0
  | x :: r => (mb x + 1) + mbList mb r
theorem mbList_append {α : Type} (mb : α → Nat) (l r : List α) : mbList mb (l ++ r) = mbList mb l + mbList mb r := by
  induction l with
  | nil => simp [mbList]
  | cons x l ih => simp only [List.cons_append, mbList, ih]; omega
theorem mbList_length {α : Type} (mb : α → Nat) (l : List α) : l.length ≤ mbList mb l := by
  induction l with
  | nil => simp [mbList]
  | cons x l ih => simp only [List.length_cons, mbList]; omega
theorem mbList_mem {α : Type} (mb : α → Nat) {l : List α} {x : α} (h : x ∈ l) : mb x < mbList mb l := by
  induction l with
  | nil => cases h
  | cons y l ih =>
    simp only [mbList]
    rcases List.mem_cons.1 h with rfl | h
    · omega
    · have := ih h
      omega
def Opens {α : Type} (P : Program) (t : TypeId) (d : Kd α) (mb : α → Nat) : Prop :=
  ∀ (H : Type) (enc : TypeId × Value → H) (w : World) (base : Nat) (spare : Nat → Bool) (held : Bool) (fuel : Nat) (cs : List Value) (x : DataW H × List MemPlace),
    DataW.trod enc P w base spare held fuel t cs = some x → ∃ v : α, d.K w v cs ∧ mb v + 1 ≤ uptoBulk x.1
section
variable {P : Program} {α : Type}
theorem opens_int {t : TypeId} {k : IntKind} (ht : P.underlying t = some (.int k)) : Opens P t (Kd.int k) (fun _ => 0) := by
  intro H enc w base spare held fuel cs x h
  obtain ⟨n, rfl, rfl, _⟩ := DataW.trod_int ht h
  exact ⟨n, rfl, by simp [uptoBulk]⟩
theorem opens_bool {t : TypeId} (ht : P.underlying t = some .bool) : Opens P t Kd.bool (fun _ => 0) := by
  intro H enc w base spare held fuel cs x h
  obtain ⟨n, rfl, rfl⟩ := DataW.trod_bool ht h
  exact ⟨n, rfl, by simp [uptoBulk]⟩
theorem opens_string {t : TypeId} (ht : P.underlying t = some .string) : Opens P t Kd.string ByteArray.size := by
  intro H enc w base spare held fuel cs x h
  obtain ⟨s, rfl, rfl, _⟩ := DataW.trod_string ht h
  exact ⟨s, rfl, by simp [uptoBulk]⟩
theorem pick_list {Q : Nat → α → Prop} : ∀ n : Nat, (∀ i, i < n → ∃ v, Q i v) → ∃ xs : List α, xs.length = n ∧ ∀ (i : Nat) (v : α), xs[i]? = some v → Q i v
  | 0, _ => ⟨[], rfl, fun i v h => by simp at h⟩
  | n + 1, h => by
    obtain ⟨xs, hl, hx⟩ := pick_list n (fun i hi => h i (by omega))
    obtain ⟨v, hv⟩ := h n (by omega)
    refine ⟨xs ++ [v], by simp [hl], fun i u hu => ?_⟩
    by_cases hi : i < xs.length
    · rw [List.getElem?_append_left hi] at hu
      exact hx i u hu
    · rw [List.getElem?_append_right (by omega)] at hu
      have : i = n := by
        by_cases h0 : i - xs.length = 0
        · omega
        · obtain ⟨m, hm⟩ : ∃ m, i - xs.length = m + 1 := ⟨i - xs.length - 1, by omega⟩
          rw [hm] at hu
          simp at hu
      subst this
      rw [show i - xs.length = 0 by omega] at hu
      simp at hu
      subst hu
      exact hv
theorem bulk_range {H : Type} (mb : α → Nat) (D : Nat → DataW H) : ∀ (n : Nat) (xs : List α), xs.length = n → (∀ (i : Nat) (v : α), xs[i]? = some v → mb v + 1 ≤ uptoBulk (D i)) → mbList mb xs ≤ uptoBulkAll ((List.range n).map D)
  | 0, xs, h, _ => by
    obtain rfl := List.eq_nil_of_length_eq_zero h
    simp [mbList, uptoBulkAll]
  | n + 1, xs, h, hb => by
    have hne : xs ≠ [] := fun e => by rw [e] at h; simp at h
    obtain ⟨ys, y, rfl⟩ : ∃ ys y, xs = ys ++ [y] := ⟨xs.dropLast, xs.getLast hne, (List.dropLast_concat_getLast hne).symm⟩
    have hl : ys.length = n := by simpa using h
    have h1 := bulk_range mb D n ys hl (fun i v hi => hb i v (by rw [List.getElem?_append_left (List.getElem?_eq_some_iff.1 hi).1]; exact hi))
    have h2 := hb n y (by rw [← hl]; simp)
    rw [List.range_succ, List.map_append, bulk_append, mbList_append]
    simp only [List.map_cons, List.map_nil, uptoBulkAll, mbList]
    omega
theorem opens_slice {t e : TypeId} {d : Kd α} {mb : α → Nat} (ht : P.underlying t = some (.slice e)) (hc : P.cellsOf e = d.sz) (hd : Opens P e d mb) : Opens P t (Kd.slice e d) (mbList mb) := by
  intro H enc w base spare held fuel cs x h
  rcases open_slice ht h with ⟨rfl, rfl⟩ | ⟨a, len, cap, m, n, D, Pl, rfl, _, hl, hm, hmm, rfl, hi⟩
  · exact ⟨[], ⟨none, 0, rfl, Nat.le_refl _, Kd.C_nil _ _⟩, by simp [mbList, uptoBulk]⟩
  · have hlm : len ≤ m := by rw [hmm]; split <;> omega
    obtain ⟨xs, hxl, hx⟩ := pick_list (Q := fun i v => ∃ cs', w.cells? base (a.add (i * P.cellsOf e)) (P.cellsOf e) = some cs' ∧ d.K w v cs' ∧ mb v + 1 ≤ uptoBulk (D i)) len (fun i hil => by
      obtain ⟨cs', hcs, hti⟩ := hi i (by omega)
      obtain ⟨v, hv, hb⟩ := hd H enc w base spare held n cs' _ hti
      exact ⟨v, cs', hcs, hv, hb⟩)
    refine ⟨xs, ⟨some a, cap, by rw [hxl], by omega, ?_⟩, ?_⟩
    · refine ⟨rfl, by rw [hxl]; have : cap ≤ maxLen := hm; simp only [maxLen] at this; omega, fun _ => ⟨a, rfl, fun j p hp => ?_⟩⟩
      obtain ⟨cs', hcs, hv, _⟩ := hx j p hp
      obtain ⟨_, hlen, hat⟩ := World.cells?_some hcs
      refine ⟨cs', by rw [hlen, hc], hv, fun i u hu => ?_⟩
      have hil : i < P.cellsOf e := by rw [← hlen]; exact (List.getElem?_eq_some_iff.1 hu).1
      rw [← hc, ← Go.Deep.add_add, hat i hil, hu]
    · have := bulk_range mb D len xs hxl (fun i v hv => (hx i v hv).choose_spec.2.2)
      simp only [uptoBulk]
      omega
end
end Go.Proofs.YtkmffeicgpocgaaDoor.P
