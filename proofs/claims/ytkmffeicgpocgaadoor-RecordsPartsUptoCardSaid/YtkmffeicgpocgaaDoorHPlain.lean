/-
  The plain laws: what the printed functions come to.
-/
import Derived.Test.YtkmffeicgpocgaaDoorHJoin
import Derived.Test.YtkmffeicgpocgaaDoorPx7
import Derived.Test.YtkmffeicgpocgaaDoorPx8
import Derived.Test.YtkmffeicgpocgaaDoorPx10
namespace Go.Proofs.YtkmffeicgpocgaaDoor.P
open Go.RowKit Go.Proofs.YtkmffeicgpocgaaDoorW.PrintWords Go.Proofs.YtkmffeicgpocgaaDoorW.PrintLast Go.Proofs.YtkmffeicgpocgaaDoorW.PrintMore
theorem rdn {l : List S48} {i : Nat} (h : i < l.length) : rd_T48 l (i : Int) = l[i] := by
  unfold rd_T48
  simp [List.getD_eq_getElem?_getD, h]
theorem rdi {l : List Int} {i : Nat} (h : i < l.length) : rd l (i : Int) = l[i] := by
  unfold rd
  simp [List.getD_eq_getElem?_getD, h]
theorem w64 {i : Nat} (h : i ≤ 100000000) : wrap64 ((i : Int) + 1) = ((i + 1 : Nat) : Int) := by unfold wrap64; omega
theorem wu64 {i : Nat} (h : i ≤ 100000000) : IntKind.u64.wrap (i : Int) = (i : Int) := by rw [IntKind.wrap_u64]; omega
/-- The rule of a log, from an offset on. -/
def logFrom : Nat → List S48 → Bool
  | _, [] => true
  | i, x :: r => decide (x.f0 = (i : Int)) && decide (x.f1.size ≤ 32) && decide (x.f2.length ≤ 256) && logFrom (i + 1) r
def isLog (l : List S48) : Bool := logFrom 0 l && decide (l.length ≤ 4096)
theorem logFrom_vals : ∀ (l : List S48) (i : Nat), logFrom i l = true → ∀ x ∈ l, x.f2.length ≤ 256
  | [], _, _, _, h => by cases h
  | y :: r, i, h, x, hx => by
    simp only [logFrom, Bool.and_eq_true, decide_eq_true_eq] at h
    rcases List.mem_cons.1 hx with rfl | hx
    · exact h.1.2
    · exact logFrom_vals r (i + 1) h.2 x hx
theorem log_l0 (l x0 : List S48) (hl : l.length ≤ 10000000) : ∀ (k i : Nat), i ≤ l.length → l.length - i < k → records_Log.l0 k x0 l (l.length : Int) (i : Int) = some (logFrom i (l.drop i) && decide (x0.length ≤ 4096))
  | 0, _, _, h => absurd h (Nat.not_lt_zero _)
  | k + 1, i, hi, hk => by
    unfold records_Log.l0
    by_cases h : i < l.length
    · rw [if_pos (by omega), if_pos (by omega), if_pos (by omega), rdn h, wu64 (by omega), List.drop_eq_getElem_cons h]
      simp only [logFrom]
      by_cases h0 : (l[i]).f0 = (i : Int)
      · rw [if_pos h0]
        by_cases h1 : (l[i]).f1.size ≤ 32
        · rw [if_neg (by omega)]
          by_cases h2 : (l[i]).f2.length ≤ 256
          · rw [if_neg (by omega), w64 (by omega), log_l0 l x0 hl k (i + 1) (by omega) (by omega)]
            simp [h0, h1, h2]
          · rw [if_pos (by omega)]
            simp [h2]
        · rw [if_pos (by omega)]
          simp [h1]
      · rw [if_neg h0]
        simp [h0]
    · rw [if_neg (by omega)]
      have : i = l.length := by omega
      subst this
      rw [List.drop_length]
      simp only [logFrom, Bool.true_and, Option.some.injEq, decide_eq_decide]
      omega
theorem log_f (l : List S48) (hl : l.length ≤ 10000000) (k : Nat) (hk : l.length < k) : records_Log.f k l = some (isLog l) := by
  have := log_l0 l l hl k 0 (by omega) (by omega)
  exact this
theorem rlog_l0 (l : List S48) (hl : l.length ≤ 10000000) : ∀ (k i : Nat), i ≤ l.length → l.length - i < k → gazetteref14_Log.l0 k l (i : Int) = some (logFrom i (l.drop i))
  | 0, _, _, h => absurd h (Nat.not_lt_zero _)
  | k + 1, i, hi, hk => by
    unfold gazetteref14_Log.l0
    by_cases h : i < l.length
    · rw [if_pos (by omega), if_pos (by omega), rdn h, wu64 (by omega), List.drop_eq_getElem_cons h]
      simp only [logFrom]
      by_cases h0 : (l[i]).f0 = (i : Int)
      · rw [if_pos h0]
        by_cases h1 : (l[i]).f1.size ≤ 32
        · rw [if_neg (by omega)]
          by_cases h2 : (l[i]).f2.length ≤ 256
          · rw [if_neg (by omega), w64 (by omega), rlog_l0 l hl k (i + 1) (by omega) (by omega)]
            simp [h0, h1, h2]
          · rw [if_pos (by omega)]
            simp [h2]
        · rw [if_pos (by omega)]
          simp [h1]
      · rw [if_neg h0]
        simp [h0]
    · rw [if_neg (by omega)]
      have : i = l.length := by omega
      subst this
      rw [List.drop_length]
      rfl
theorem rlog_f (l : List S48) (hl : l.length ≤ 10000000) (k : Nat) (hk : l.length < k) : gazetteref14_Log.f k l = some (isLog l) := by
  unfold gazetteref14_Log.f isLog
  by_cases h : l.length ≤ 4096
  · rw [if_neg (by omega)]
    have := rlog_l0 l hl k 0 (by omega) (by omega)
    rw [show ((0 : Nat) : Int) = 0 from rfl] at this
    rw [this]
    simp [h]
  · rw [if_pos (by omega)]
    simp [h]
/-- Ranges. -/
def chk (r0 r1 : ByteArray) : Int := if r0.size > 32 ∨ r1.size > 32 then 131 else if r1.toList = ([] : List UInt8) then 0 else if Op.bytesLess r0.toList r1.toList = true then 0 else 132
def has (r0 r1 : ByteArray) (s : ByteArray) : Bool := if chk r0 r1 = 0 then (if s.size ≤ 32 then (if Op.bytesLess s.toList r0.toList = true then false else (if r1.toList = ([] : List UInt8) then true else Op.bytesLess s.toList r1.toList)) else false) else false
theorem chk_f (r0 r1 : ByteArray) (k : Nat) (hk : 0 < k) : keyrange_Check.f k r0 r1 = some (chk r0 r1) := by
  obtain ⟨k, rfl⟩ : ∃ m, k = m + 1 := ⟨k - 1, by omega⟩
  unfold keyrange_Check.f chk
  by_cases h0 : r0.size > 32
  · rw [if_pos (by omega), keyrange_Check.j0, if_pos rfl, if_pos (.inl h0)]
  · rw [if_neg (by omega), keyrange_Check.j0]
    by_cases h1 : r1.size > 32
    · rw [if_pos (decide_eq_true (by omega)), if_pos (.inr h1)]
    · rw [if_neg (show ¬ (r0.size > 32 ∨ r1.size > 32) from fun h => h.elim h0 h1), if_neg (by simp; omega)]
      by_cases h2 : r1.toList = ([] : List UInt8)
      · rw [if_pos h2, if_pos h2]
      · rw [if_neg h2, if_neg h2]
        by_cases h3 : Op.bytesLess r0.toList r1.toList = true
        · rw [if_pos h3, if_pos h3]
        · rw [if_neg h3, if_neg h3]
theorem rchk_f (r0 r1 : ByteArray) (k : Nat) (hk : 0 < k) : gazetteref13_Check.f k r0 r1 = some (chk r0 r1) := by
  obtain ⟨k, rfl⟩ : ∃ m, k = m + 1 := ⟨k - 1, by omega⟩
  unfold gazetteref13_Check.f chk
  by_cases h0 : r0.size > 32
  · rw [if_pos (by omega), gazetteref13_Check.j0, if_pos rfl, if_pos (.inl h0)]
  · rw [if_neg (by omega), gazetteref13_Check.j0]
    by_cases h1 : r1.size > 32
    · rw [if_pos (decide_eq_true (by omega)), if_pos (.inr h1)]
    · rw [if_neg (show ¬ (r0.size > 32 ∨ r1.size > 32) from fun h => h.elim h0 h1), if_neg (by simp; omega)]
      by_cases h2 : r1.toList = ([] : List UInt8)
      · rw [if_pos h2, if_pos h2]
      · rw [if_neg h2, if_neg h2]
        by_cases h3 : Op.bytesLess r0.toList r1.toList = true
        · rw [if_pos h3, if_pos h3]
        · rw [if_neg h3, if_neg h3]
theorem has_f (r0 r1 s : ByteArray) (k : Nat) (hk : 0 < k) : keyrange_Has.f k r0 r1 s = some (has r0 r1 s) := by
  unfold keyrange_Has.f has
  rw [chk_f r0 r1 k hk, Option.bind_some]
  repeat' split
  all_goals first | rfl | (exfalso; omega)
theorem rhas_f (r0 r1 s : ByteArray) (k : Nat) (hk : 0 < k) : gazetteref13_Has.f k r0 r1 s = some (has r0 r1 s) := by
  unfold gazetteref13_Has.f has
  rw [rchk_f r0 r1 k hk, Option.bind_some]
  repeat' split
  all_goals first | rfl | (exfalso; omega)
theorem own_f (x : S48) (n : Nat) (h : x.f2.length ≤ 100000000) (hn : n ≤ 100000000) : records_own.f x.f0 x.f1 x.f2 x.f3 x.f4 (n : Int) = some ((n : Int), x.f1, x.f2, x.f3, x.f4) := by
  unfold records_own.f slices_Clone_byte_byte.f
  rw [if_pos (by omega), Option.bind_some, wu64 hn]
theorem at_f (x : S48) (n : Nat) (h : x.f2.length ≤ 100000000) (hn : n ≤ 100000000) : gazetteref14_at.f x.f0 x.f1 x.f2 x.f3 x.f4 (n : Int) = some ((n : Int), x.f1, x.f2, x.f3, x.f4) := by
  unfold gazetteref14_at.f
  rw [Option.bind_some, if_pos (by simp; omega), wu64 hn]
  rfl
/-- What is kept. -/
def keepF (p : ByteArray → Bool) : List S48 → List S48 → List Int → List S48 × List Int
  | [], out, tt => (out, tt ++ [(out.length : Int)])
  | x :: r, out, tt => if p x.f1 = true then keepF p r (out ++ [ownR x out.length]) (tt ++ [(out.length : Int)]) else keepF p r out (tt ++ [(out.length : Int)])
theorem keep_l0 (l : List S48) (hl : l.length ≤ 4096) (hv : ∀ x ∈ l, x.f2.length ≤ 256) (r0 r1 : ByteArray) : ∀ (k i : Nat) (out : List S48) (tt : List Int), i ≤ l.length → l.length - i + 1 < k → out.length ≤ i → tt.length ≤ i →
    records_Keep.l0 k out tt l (l.length : Int) (i : Int) r0 r1 = some (keepF (has r0 r1) (l.drop i) out tt)
  | 0, _, _, _, _, h, _, _ => absurd h (Nat.not_lt_zero _)
  | k + 1, i, out, tt, hi, hk, ho, ht => by
    unfold records_Keep.l0
    by_cases h : i < l.length
    · have hvi := hv _ (List.getElem_mem h)
      rw [if_pos (by omega), if_pos (by omega), if_pos (by omega), if_pos (by omega), rdn h, wu64 (by omega), Option.bind_some, has_f _ _ _ k (by omega), Option.bind_some, List.drop_eq_getElem_cons h, own_f _ _ (by omega) (by omega), Option.bind_some, w64 (by omega), if_pos (show out.length < 2199023255552 by omega)]
      unfold keepF
      by_cases hp : has r0 r1 (l[i]).f1 = true
      · rw [if_pos hp, if_pos hp, keep_l0 l hl hv r0 r1 k (i + 1) _ _ (by omega) (by omega) (by simp; omega) (by simp; omega)]
        rfl
      · rw [if_neg hp, if_neg hp, keep_l0 l hl hv r0 r1 k (i + 1) _ _ (by omega) (by omega) (by omega) (by simp; omega)]
    · rw [if_neg (by omega), if_pos (by omega), wu64 (by omega)]
      have : i = l.length := by omega
      subst this
      rw [List.drop_length]
      rfl
def keep (r0 r1 : ByteArray) (l : List S48) : List S48 × List Int := if isLog l = true then (if chk r0 r1 = 0 then keepF (has r0 r1) l [] [] else ([], [])) else ([], [])
theorem keep_f (l : List S48) (hl : l.length ≤ 10000000) (r0 r1 : ByteArray) (k : Nat) (hk : l.length + 5 < k) : records_Keep.f k l r0 r1 = some (keep r0 r1 l) := by
  obtain ⟨k, rfl⟩ : ∃ m, k = m + 1 := ⟨k - 1, by omega⟩
  unfold records_Keep.f keep
  rw [log_f l hl _ (by omega), Option.bind_some]
  by_cases h : isLog l = true
  · have h' := h
    unfold isLog at h'
    simp only [Bool.and_eq_true, decide_eq_true_eq] at h'
    rw [if_pos h, if_pos h, chk_f _ _ _ (by omega), Option.bind_some]
    rw [records_Keep.j0]
    by_cases hc : chk r0 r1 = 0
    · have hb : (chk r0 r1 != 0) = false := by simp [hc]
      rw [hb, if_neg (by simp), if_pos hc, w64 (by omega), if_pos (by omega), if_pos (by omega)]
      have := keep_l0 l h'.2 (logFrom_vals l 0 h'.1) r0 r1 k 0 [] [] (by omega) (by omega) (by simp) (by simp)
      exact this
    · have hb : (chk r0 r1 != 0) = true := by simp [hc]
      rw [hb, if_pos rfl, if_neg hc]
  · rw [if_neg h, if_neg h]
    rw [records_Keep.j0]
    rw [if_pos rfl]
theorem rkeep_l0 (l : List S48) (hl : l.length ≤ 4096) (hv : ∀ x ∈ l, x.f2.length ≤ 256) (r0 r1 : ByteArray) : ∀ (k i : Nat) (out : List S48) (tt : List Int), i ≤ l.length → l.length - i + 1 < k → out.length ≤ i → tt.length ≤ i →
    gazetteref14_Keep.l0 k l out tt (i : Int) r0 r1 = some (keepF (has r0 r1) (l.drop i) out tt)
  | 0, _, _, _, _, h, _, _ => absurd h (Nat.not_lt_zero _)
  | k + 1, i, out, tt, hi, hk, ho, ht => by
    unfold gazetteref14_Keep.l0
    by_cases h : i < l.length
    · have hvi := hv _ (List.getElem_mem h)
      rw [if_pos (by omega), if_pos (by omega), Option.bind_some, if_pos (show (0 : Int) ≤ i by omega), rdn h, wu64 (by omega), rhas_f _ _ _ k (by omega), Option.bind_some, List.drop_eq_getElem_cons h, at_f _ _ (by omega) (by omega), Option.bind_some, w64 (by omega), if_pos (show out.length < 2199023255552 by omega)]
      unfold keepF
      by_cases hp : has r0 r1 (l[i]).f1 = true
      · rw [if_pos hp, if_pos hp, rkeep_l0 l hl hv r0 r1 k (i + 1) _ _ (by omega) (by omega) (by simp; omega) (by simp; omega)]
        rfl
      · rw [if_neg hp, if_neg hp, rkeep_l0 l hl hv r0 r1 k (i + 1) _ _ (by omega) (by omega) (by omega) (by simp; omega)]
    · rw [if_neg (by omega), if_pos (by omega), wu64 (by omega)]
      have : i = l.length := by omega
      subst this
      rw [List.drop_length]
      rfl
theorem rkeep_f (l : List S48) (hl : l.length ≤ 10000000) (r0 r1 : ByteArray) (k : Nat) (hk : l.length + 5 < k) : gazetteref14_Keep.f k l r0 r1 = some (keep r0 r1 l) := by
  obtain ⟨k, rfl⟩ : ∃ m, k = m + 1 := ⟨k - 1, by omega⟩
  unfold gazetteref14_Keep.f keep
  rw [rlog_f l hl _ (by omega), Option.bind_some]
  by_cases h : isLog l = true
  · have h' := h
    unfold isLog at h'
    simp only [Bool.and_eq_true, decide_eq_true_eq] at h'
    rw [if_pos h, if_pos h, rchk_f _ _ _ (by omega), Option.bind_some]
    rw [gazetteref14_Keep.j0]
    by_cases hc : chk r0 r1 = 0
    · have hb : (chk r0 r1 != 0) = false := by simp [hc]
      rw [hb, if_neg (by simp), if_pos hc]
      have := rkeep_l0 l h'.2 (logFrom_vals l 0 h'.1) r0 r1 k 0 [] [] (by omega) (by omega) (by simp) (by simp)
      exact this
    · have hb : (chk r0 r1 != 0) = true := by simp [hc]
      rw [hb, if_pos rfl, if_neg hc]
  · rw [if_neg h, if_neg h]
    rw [gazetteref14_Keep.j0]
    rw [if_pos rfl]
/-- A list is like itself. -/
theorem same_l0 (l : List S48) (hl : l.length ≤ 10000000) : ∀ (k i : Nat), i ≤ l.length → l.length - i < k → gazetteref14_Same.l0 k l l (i : Int) = some true
  | 0, _, _, h => absurd h (Nat.not_lt_zero _)
  | k + 1, i, hi, hk => by
    unfold gazetteref14_Same.l0
    by_cases h : i < l.length
    · rw [if_pos (by omega), if_pos (by omega), if_pos (by omega), if_pos rfl, if_pos rfl, if_pos rfl, if_pos rfl, if_pos rfl, w64 (by omega)]
      exact same_l0 l hl k (i + 1) (by omega) (by omega)
    · rw [if_neg (by omega)]
theorem same_f (l : List S48) (hl : l.length ≤ 10000000) (k : Nat) (hk : l.length < k) : gazetteref14_Same.f k l l = some true := by
  unfold gazetteref14_Same.f
  rw [if_pos rfl]
  exact same_l0 l hl k 0 (by omega) (by omega)
theorem sameTo_l0 (l : List Int) (hl : l.length ≤ 10000000) : ∀ (k i : Nat), i ≤ l.length → l.length - i < k → gazetteref14_SameTo.l0 k l l (i : Int) = some true
  | 0, _, _, h => absurd h (Nat.not_lt_zero _)
  | k + 1, i, hi, hk => by
    unfold gazetteref14_SameTo.l0
    by_cases h : i < l.length
    · rw [if_pos (by omega), if_pos (by omega), if_pos (by omega), if_pos rfl, w64 (by omega)]
      exact sameTo_l0 l hl k (i + 1) (by omega) (by omega)
    · rw [if_neg (by omega)]
theorem sameTo_f (l : List Int) (hl : l.length ≤ 10000000) (k : Nat) (hk : l.length < k) : gazetteref14_SameTo.f k l l = some true := by
  unfold gazetteref14_SameTo.f
  rw [if_pos rfl]
  exact sameTo_l0 l hl k 0 (by omega) (by omega)
/-- A copy. -/
theorem lown_l0 (l : List S48) (hl : l.length ≤ 10000000) (hv : ∀ x ∈ l, x.f2.length ≤ 10000000) : ∀ (k i : Nat), i ≤ l.length → l.length - i < k → gazettelaw14_own.l0 k l (l.take i) (i : Int) = some l
  | 0, _, _, h => absurd h (Nat.not_lt_zero _)
  | k + 1, i, hi, hk => by
    unfold gazettelaw14_own.l0
    by_cases h : i < l.length
    · have hvi := hv _ (List.getElem_mem h)
      rw [if_pos (by omega), if_pos (by omega), rdn h, Option.bind_some, if_pos (by simp; omega), if_pos (by simp; omega), w64 (by omega)]
      rw [show l.take i ++ [(⟨(l[i]).f0, (l[i]).f1, [] ++ (l[i]).f2, (l[i]).f3, (l[i]).f4⟩ : S48)] = l.take (i + 1) by rw [List.take_succ_eq_append_getElem h]; rfl]
      exact lown_l0 l hl hv k (i + 1) (by omega) (by omega)
    · rw [if_neg (by omega), List.take_of_length_le (by omega)]
theorem lown_f (l : List S48) (hl : l.length ≤ 1048576) (hv : ∀ x ∈ l, x.f2.length ≤ 10000000) (k : Nat) (hk : l.length < k) : gazettelaw14_own.f k l = some l := by
  unfold gazettelaw14_own.f
  rw [w64 (by omega), if_pos (by omega), if_pos (by omega)]
  exact lown_l0 l (by omega) hv k 0 (by omega) (by omega)
end Go.Proofs.YtkmffeicgpocgaaDoor.P
