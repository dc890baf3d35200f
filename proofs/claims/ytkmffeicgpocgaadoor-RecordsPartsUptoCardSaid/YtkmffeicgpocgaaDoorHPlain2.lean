/-
  What two logs are joined to: the reference's answer is 'joinR'.
-/
import Derived.Test.YtkmffeicgpocgaaDoorHPlain
namespace Go.Proofs.YtkmffeicgpocgaaDoor.P
open Go.RowKit Go.Proofs.YtkmffeicgpocgaaDoorW.PrintWords Go.Proofs.YtkmffeicgpocgaaDoorW.PrintLast Go.Proofs.YtkmffeicgpocgaaDoorW.PrintMore
theorem lower_l0 (l : List S48) (hl : l.length ≤ 10000000) (p0 : Int) (p1 : ByteArray) (p2 : List Int) (p3 p4 : Int) : ∀ (k i : Nat), i ≤ l.length → l.length - i < k → gazetteref14_lower.l0 k l (i : Int) p0 p1 p2 p3 p4 = some ((l.drop i).any (lowP p3 p4))
  | 0, _, _, h => absurd h (Nat.not_lt_zero _)
  | k + 1, i, hi, hk => by
    unfold gazetteref14_lower.l0
    by_cases h : i < l.length
    · rw [if_pos (by omega), if_pos (by omega), rdn h, w64 (by omega), lower_l0 l hl p0 p1 p2 p3 p4 k (i + 1) (by omega) (by omega), List.drop_eq_getElem_cons h, List.any_cons]
      by_cases h3 : (l[i]).f3 = p3
      · rw [if_pos h3]
        by_cases h4 : (l[i]).f4 < p4
        · rw [if_pos h4]
          simp [lowP, h3, h4]
        · rw [if_neg h4]
          simp [lowP, h4]
      · rw [if_neg h3]
        simp [lowP, h3]
    · rw [if_neg (by omega)]
      have : i = l.length := by omega
      subst this
      rw [List.drop_length]
      rfl
theorem lower_f (l : List S48) (hl : l.length ≤ 10000000) (x : S48) (k : Nat) (hk : l.length < k) : gazetteref14_lower.f k l x.f0 x.f1 x.f2 x.f3 x.f4 = some (l.any (lowP x.f3 x.f4)) := by
  have := lower_l0 l hl x.f0 x.f1 x.f2 x.f3 x.f4 k 0 (by omega) (by omega)
  exact this
def jres : Option (List S48 × List Int × List Int) → List S48 × List Int × List Int × Int
  | none => ([], [], [], 145)
  | some (o, x, y) => (o, x ++ [(o.length : Int)], y ++ [(o.length : Int)], 0)
def joinR (a b : List S48) : List S48 × List Int × List Int × Int :=
  if isLog a = true ∧ isLog b = true then (if a.length + b.length > 4096 then ([], [], [], 143) else jres (jn (a.length + b.length) a b [] [] [])) else ([], [], [], 1)
theorem hd_val {a : List S48} (ha : a ≠ []) (hv : ∀ x ∈ a, x.f2.length ≤ 256) : (hd a).f2.length ≤ 256 := by
  obtain ⟨x, r, e, e2⟩ := hd_cons ha
  rw [e2]
  exact hv x (by rw [e]; exact List.mem_cons_self)
theorem rjoin_j4 (a b out : List S48) (tA tB : List Int) (n k : Nat) (x13 x14 : Bool) (hn : a.length + b.length = n + 1) (ho : out.length + n < 4096) (h1 : tA.length ≤ out.length) (h2 : tB.length ≤ out.length)
    (va : ∀ x ∈ a, x.f2.length ≤ 256) (vb : ∀ x ∈ b, x.f2.length ≤ 256) (ha : x13 = true → a ≠ []) (hb : x14 = true → b ≠ []) :
    gazetteref14_Join.j4 (k + 1) a b out tA tB x13 x14 = if x13 = true then gazetteref14_Join.l0 k (a.drop 1) b (out ++ [ownR (hd a) out.length]) (tA ++ [(out.length : Int)]) tB
      else if x14 = true then gazetteref14_Join.l0 k a (b.drop 1) (out ++ [ownR (hd b) out.length]) tA (tB ++ [(out.length : Int)]) else some ([], [], [], 145) := by
  rw [gazetteref14_Join.j4]
  by_cases h13 : x13 = true
  · have ha := ha h13
    have hl : 0 < a.length := List.length_pos_iff.mpr ha
    have hv := hd_val ha va
    rw [if_pos h13, if_pos h13, if_pos (by omega), if_pos (by omega)]
    show (gazetteref14_at.f (hd a).f0 (hd a).f1 (hd a).f2 (hd a).f3 (hd a).f4 (out.length : Int)).bind _ = _
    rw [at_f _ _ (by omega) (by omega), Option.bind_some, if_pos (by omega), if_pos (by omega), wu64 (by omega)]
    rfl
  · rw [if_neg h13, if_neg h13]
    by_cases h14 : x14 = true
    · have hb := hb h14
      have hl : 0 < b.length := List.length_pos_iff.mpr hb
      have hv := hd_val hb vb
      rw [if_pos h14, if_pos h14, if_pos (by omega), if_pos (by omega)]
      show (gazetteref14_at.f (hd b).f0 (hd b).f1 (hd b).f2 (hd b).f3 (hd b).f4 (out.length : Int)).bind _ = _
      rw [at_f _ _ (by omega) (by omega), Option.bind_some, if_pos (by omega), if_pos (by omega), wu64 (by omega)]
      rfl
    · rw [if_neg h14, if_neg h14]
theorem rjoin_j3 (a b out : List S48) (tA tB : List Int) (n k : Nat) (x13 : Bool) (hk : 4200 < k) (hn : a.length + b.length = n + 1) (ho : out.length + n < 4096) (h1 : tA.length ≤ out.length) (h2 : tB.length ≤ out.length)
    (va : ∀ x ∈ a, x.f2.length ≤ 256) (vb : ∀ x ∈ b, x.f2.length ≤ 256) (ha : x13 = true → a ≠ []) :
    gazetteref14_Join.j2 (k + 3) a b out tA tB x13 false = if x13 = true then gazetteref14_Join.l0 k (a.drop 1) b (out ++ [ownR (hd a) out.length]) (tA ++ [(out.length : Int)]) tB
      else if b ≠ [] ∧ a.any (lowP (hd b).f3 (hd b).f4) = false then gazetteref14_Join.l0 k a (b.drop 1) (out ++ [ownR (hd b) out.length]) tA (tB ++ [(out.length : Int)]) else some ([], [], [], 145) := by
  rw [gazetteref14_Join.j2]
  by_cases h13 : x13 = true
  · rw [if_pos h13, if_pos h13, gazetteref14_Join.j3, if_neg (by decide), rjoin_j4 a b out tA tB n k x13 false hn ho h1 h2 va vb ha (fun h => by cases h), if_pos h13]
  · rw [if_neg h13, if_neg h13, gazetteref14_Join.j3]
    by_cases hb : b = []
    · subst hb
      rw [if_neg (by decide), rjoin_j4 a [] out tA tB n k x13 false hn ho h1 h2 va vb ha (fun h => by cases h), if_neg h13, if_neg (by decide), if_neg (by simp)]
    · have hl : 0 < b.length := List.length_pos_iff.mpr hb
      rw [if_pos (decide_eq_true (by omega)), if_pos (by omega)]
      show (gazetteref14_lower.f (k + 1) a (hd b).f0 (hd b).f1 (hd b).f2 (hd b).f3 (hd b).f4).bind _ = _
      rw [lower_f a (by omega) _ _ (by omega), Option.bind_some, rjoin_j4 a b out tA tB n k x13 _ hn ho h1 h2 va vb ha (fun _ => hb), if_neg h13]
      by_cases hw : a.any (lowP (hd b).f3 (hd b).f4) = true
      · rw [hw, if_neg (by decide), if_neg (by simp)]
      · have hw' := Bool.eq_false_iff.mpr hw
        rw [hw', if_pos (by decide), if_pos ⟨hb, rfl⟩]
theorem rjoin_l0 : ∀ (n : Nat) (a b out : List S48) (tA tB : List Int) (k : Nat), a.length + b.length = n → out.length + n ≤ 4096 → tA.length ≤ out.length → tB.length ≤ out.length → (∀ x ∈ a, x.f2.length ≤ 256) → (∀ x ∈ b, x.f2.length ≤ 256) → 4300 + 4 * n < k →
    gazetteref14_Join.l0 k a b out tA tB = some (jres (jn n a b out tA tB))
  | 0, a, b, out, tA, tB, k, hn, ho, h1, h2, va, vb, hk => by
    obtain ⟨k, rfl⟩ : ∃ m, k = m + 1 := ⟨k - 1, by omega⟩
    rw [gazetteref14_Join.l0, if_neg (by unfold wrap64; omega), if_pos (by omega), if_pos (by omega), wu64 (by omega)]
    rfl
  | n + 1, a, b, out, tA, tB, k, hn, ho, h1, h2, va, vb, hk => by
    obtain ⟨k, rfl⟩ : ∃ m, k = m + 4 := ⟨k - 4, by omega⟩
    have hs : wrap64 ((a.length : Int) + (b.length : Int)) = (a.length : Int) + (b.length : Int) := by unfold wrap64; omega
    have hda : ∀ x ∈ a.drop 1, x.f2.length ≤ 256 := fun x hx => va x (List.mem_of_mem_drop hx)
    have hdb : ∀ x ∈ b.drop 1, x.f2.length ≤ 256 := fun x hx => vb x (List.mem_of_mem_drop hx)
    rw [gazetteref14_Join.l0, hs, if_pos (by omega), jn]
    have fin : ∀ x13 : Bool, (x13 = true ↔ (a ≠ [] ∧ b.any (lowP (hd a).f3 (hd a).f4) = false)) → gazetteref14_Join.j2 (k + 3) a b out tA tB x13 false = some (jres (if a ≠ [] ∧ b.any (lowP (hd a).f3 (hd a).f4) = false then jn n (a.drop 1) b (out ++ [ownR (hd a) out.length]) (tA ++ [(out.length : Int)]) tB
        else if b ≠ [] ∧ a.any (lowP (hd b).f3 (hd b).f4) = false then jn n a (b.drop 1) (out ++ [ownR (hd b) out.length]) tA (tB ++ [(out.length : Int)]) else none)) := by
      intro x13 hx
      rw [rjoin_j3 a b out tA tB n k x13 (by omega) hn (by omega) h1 h2 va vb (fun h => (hx.1 h).1)]
      by_cases h13 : x13 = true
      · have hc := hx.1 h13
        have hl : 0 < a.length := List.length_pos_iff.mpr hc.1
        rw [if_pos h13, if_pos hc]
        exact rjoin_l0 n _ _ _ _ _ k (by rw [List.length_drop]; omega) (by simp; omega) (by simp; omega) (by simp; omega) hda vb (by omega)
      · rw [if_neg h13, if_neg (fun hc => h13 (hx.2 hc))]
        by_cases hb : b ≠ [] ∧ a.any (lowP (hd b).f3 (hd b).f4) = false
        · have hl : 0 < b.length := List.length_pos_iff.mpr hb.1
          rw [if_pos hb, if_pos hb]
          exact rjoin_l0 n _ _ _ _ _ k (by rw [List.length_drop]; omega) (by simp; omega) (by simp; omega) (by simp; omega) va hdb (by omega)
        · rw [if_neg hb, if_neg hb]
          rfl
    by_cases ha : a = []
    · subst ha
      rw [if_neg (by simp)]
      exact fin false (by simp)
    · have hl : 0 < a.length := List.length_pos_iff.mpr ha
      rw [if_pos (by omega), if_pos (by omega)]
      show (gazetteref14_lower.f (k + 3) b (hd a).f0 (hd a).f1 (hd a).f2 (hd a).f3 (hd a).f4).bind _ = _
      rw [lower_f b (by omega) _ _ (by omega), Option.bind_some]
      refine fin _ ?_
      constructor
      · intro h
        exact ⟨ha, by simpa using h⟩
      · intro h
        rw [h.2]
        rfl
theorem rjoin_f (a b : List S48) (ha : a.length ≤ 1048576) (hb : b.length ≤ 1048576) (k : Nat) (hk : 3000000 < k) : gazetteref14_Join.f k a b = some (joinR a b) := by
  obtain ⟨k, rfl⟩ : ∃ m, k = m + 1 := ⟨k - 1, by omega⟩
  unfold gazetteref14_Join.f joinR
  rw [rlog_f a (by omega) _ (by omega), Option.bind_some, rlog_f b (by omega) _ (by omega), Option.bind_some]
  have hs : wrap64 ((a.length : Int) + (b.length : Int)) = (a.length : Int) + (b.length : Int) := by unfold wrap64; omega
  by_cases h1 : isLog a = true
  · rw [if_pos h1, gazetteref14_Join.j0]
    by_cases h2 : isLog b = true
    · have h1' := h1
      have h2' := h2
      unfold isLog at h1' h2'
      simp only [Bool.and_eq_true, decide_eq_true_eq] at h1' h2'
      rw [if_pos (show isLog a = true ∧ isLog b = true from ⟨h1, h2⟩), h2, if_neg (show ¬ (!true) = true by decide), hs]
      by_cases h3 : a.length + b.length > 4096
      · rw [if_pos (by omega), if_pos h3]
      · rw [if_neg (by omega), if_neg h3]
        exact rjoin_l0 _ a b [] [] [] k rfl (by simp; omega) (by simp) (by simp) (logFrom_vals a 0 h1'.1) (logFrom_vals b 0 h2'.1) (by omega)
    · have h2' := Bool.eq_false_iff.mpr h2
      rw [h2', if_pos (by decide), if_neg (by simp)]
  · rw [if_neg h1, gazetteref14_Join.j0, if_pos rfl, if_neg (fun h => h1 h.1)]
end Go.Proofs.YtkmffeicgpocgaaDoor.P
