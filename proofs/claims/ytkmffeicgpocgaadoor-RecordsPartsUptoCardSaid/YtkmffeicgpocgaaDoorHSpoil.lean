/-
  spoil: it writes over all that a result of the call's own holds, its spare places too, and over nothing else.
-/
import Derived.Test.YtkmffeicgpocgaaDoorPx0
namespace Go.Proofs.YtkmffeicgpocgaaDoor.P
open Go.RowKit Go.Proofs.YtkmffeicgpocgaaDoorW.PrintWords Go.Proofs.YtkmffeicgpocgaaDoorW.PrintLast Go.Proofs.YtkmffeicgpocgaaDoorW.PrintMore
def SpB (w : World) (B : Nat) (A : Option Addr) (m : Nat) : Prop :=
  m = 0 ∨ ∃ g bs, A = some ⟨g, 0, none⟩ ∧ B ≤ g ∧ w.heap[g]? = some (.cells bs 5 (0, 0)) ∧ m ≤ bs.size ∧ ∀ j, j < m → ∃ x : Int, bs[j]? = some (.int .u8 x)
def SpR (w : World) (B g cap : Nat) : Prop :=
  B ≤ g ∧ ∃ cur : Array Value, w.heap[g]? = some (.cells cur 48 (0, 0)) ∧ cur.size = cap * 5 ∧ ∀ i, i < cap → ∃ (a : Int) (b : ByteArray) (A : Option Addr) (m c : Nat) (p q : Int),
    cur[i * 5]? = some (.int .u64 a) ∧ cur[i * 5 + 1]? = some (.string b) ∧ cur[i * 5 + 2]? = some (.slice A m c) ∧ m ≤ 9223372036854775807 ∧ SpB w B A m ∧ cur[i * 5 + 3]? = some (.int .u64 p) ∧ cur[i * 5 + 4]? = some (.int .u64 q)
theorem SpB.put {w : World} {B : Nat} {A : Option Addr} {m g' : Nat} {bs : Array Value} (h : SpB w B A m) (hb : w.heap[g']? = some (.cells bs 5 (0, 0))) (j : Nat) (x : Int) : SpB (w.setCell ⟨g', j, none⟩ (.int .u8 x)) B A m := by
  rcases h with h | ⟨g, cs, e, hB, hg, hm, hc⟩
  · exact .inl h
  · by_cases hgg : g = g'
    · subst hgg
      rw [hg] at hb
      injection hb with hb
      injection hb with hb _
      subst hb
      refine .inr ⟨g, _, e, hB, blk_put hg j _ rfl, by simpa using hm, fun i hi => ?_⟩
      obtain ⟨y, hy⟩ := hc i hi
      by_cases hij : j = i
      · subst hij
        exact ⟨x, by simp [Nat.lt_of_lt_of_le hi hm]⟩
      · exact ⟨y, by rw [Array.getElem?_setIfInBounds_ne hij]; exact hy⟩
    · exact .inr ⟨g, cs, e, hB, blk_far (p := ⟨g', j, none⟩) hg hgg _, hm, hc⟩
theorem SpR.put {w : World} {B g cap g' : Nat} {bs : Array Value} (h : SpR w B g cap) (hb : w.heap[g']? = some (.cells bs 5 (0, 0))) (j : Nat) (x : Int) : SpR (w.setCell ⟨g', j, none⟩ (.int .u8 x)) B g cap := by
  obtain ⟨hB, cur, hg, hs, hc⟩ := h
  have hne : g ≠ g' := by
    rintro rfl
    rw [hg] at hb
    injection hb with hb
    injection hb with _ hb
    cases hb
  refine ⟨hB, cur, blk_far (p := ⟨g', j, none⟩) hg hne _, hs, fun i hi => ?_⟩
  obtain ⟨a, b, A, m, c, p, q, h0, h1, h2, h3, h4, h5⟩ := hc i hi
  exact ⟨a, b, A, m, c, p, q, h0, h1, h2, h3, h4.put hb j x, h5⟩
theorem SpB.far {w : World} {B : Nat} {A : Option Addr} {m g : Nat} {cur : Array Value} (h : SpB w B A m) (hb : w.heap[g]? = some (.cells cur 48 (0, 0))) (j : Nat) (u : Value) : SpB (w.setCell ⟨g, j, none⟩ u) B A m := by
  rcases h with h | ⟨g', cs, e, hB, hg, hm, hc⟩
  · exact .inl h
  · refine .inr ⟨g', cs, e, hB, blk_far (p := ⟨g, j, none⟩) hg ?_ _, hm, hc⟩
    rintro rfl
    rw [hg] at hb
    injection hb with hb
    injection hb with _ hb
    cases hb
theorem SpR.rec_ {w : World} {B g cap k : Nat} (h : SpR w B g cap) (hk : k < cap) :
    SpR (((((w.setCell ⟨g, k * 5, none⟩ (.int .u64 77)).setCell ⟨g, k * 5 + 1, none⟩ (.string ⟨#[]⟩)).setCell ⟨g, k * 5 + 2, none⟩ (.slice none 0 0)).setCell ⟨g, k * 5 + 3, none⟩ (.int .u64 0)).setCell ⟨g, k * 5 + 4, none⟩ (.int .u64 0)) B g cap := by
  obtain ⟨hB, cur, hg, hs, hc⟩ := h
  have h1 := blk_put hg (k * 5) (.int .u64 77) rfl
  have h2 := blk_put h1 (k * 5 + 1) (.string ⟨#[]⟩) rfl
  have h3 := blk_put h2 (k * 5 + 2) (.slice none 0 0) rfl
  have h4 := blk_put h3 (k * 5 + 3) (.int .u64 0) rfl
  have h5 := blk_put h4 (k * 5 + 4) (.int .u64 0) rfl
  refine ⟨hB, _, h5, by simp [hs], fun i hi => ?_⟩
  by_cases hik : i = k
  · subst hik
    refine ⟨77, ⟨#[]⟩, none, 0, 0, 0, 0, ?_, ?_, ?_, by omega, .inl rfl, ?_, ?_⟩
    all_goals simp [Array.getElem?_setIfInBounds, hs]
    all_goals omega
  · obtain ⟨a, b, A, m, c, p, q, h0', h1', h2', h3', h4', h5', h6'⟩ := hc i hi
    refine ⟨a, b, A, m, c, p, q, ?_, ?_, ?_, h3', ((((h4'.far hg _ _).far h1 _ _).far h2 _ _).far h3 _ _).far h4 _ _, ?_, ?_⟩
    · repeat rw [Array.getElem?_setIfInBounds_ne (by omega)]
      exact h0'
    · repeat rw [Array.getElem?_setIfInBounds_ne (by omega)]
      exact h1'
    · repeat rw [Array.getElem?_setIfInBounds_ne (by omega)]
      exact h2'
    · repeat rw [Array.getElem?_setIfInBounds_ne (by omega)]
      exact h5'
    · repeat rw [Array.getElem?_setIfInBounds_ne (by omega)]
      exact h6'
set_option maxHeartbeats 1000000 in
theorem spoil_some (B g n cap : Nat) (w : World) (hcap : cap ≤ 9223372036854775807) (h : SpR w B g cap) :
    Calls Tryd.prog 11 #[.slice (some ⟨g, 0, none⟩) n cap] w fun e w' => e = .returned (.tuple #[]) ∧ Below B w w' := by
  have H := Aside0.mk h
  clear h
  go_enter Tryd.func11, Tryd.ntmps11
  go_wp2
  go_loopw [2] (fun i wr => ∃ k : Nat, i = .int .i64 k ∧ k ≤ cap ∧ Aside0 (SpR wr B g cap) ∧ Aside0 (Below B w wr)) (fun i _ => cap - (intOf i).toNat)
  case atStart => exact ⟨0, rfl, Nat.zero_le _, H, ⟨Below.refl _ _⟩⟩
  case round =>
    obtain ⟨k, rfl, hk, HS, HB⟩ := hrel
    clear H
    by_cases hlt : k < cap
    · go_wp2
      obtain ⟨wo, rfl⟩ : ∃ wo : World, wo = wr := ⟨_, rfl⟩
      go_loopw [3] (fun i wr => ∃ j : Nat, i = .int .i64 j ∧ Aside0 (SpR wr B g cap) ∧ Aside0 (Below B w wr)) (fun i _ => 9223372036854775807 - (intOf i).toNat)
      case atStart => exact ⟨0, rfl, HS, HB⟩
      case round =>
        obtain ⟨j, rfl, HS, HB⟩ := hrel
        obtain ⟨hBg, cur, hg, hs, hc⟩ := HS.out
        obtain ⟨a, b, A, m, c, p, q, h0, h1, h2, h3, h4, h5, h6⟩ := hc k hlt
        have hx2 : wr.cell? ⟨g, k * 5 + 2, none⟩ = some (.slice A m c) := (blk_cell hg _).trans h2
        by_cases hj : j < m
        · rcases h4 with h4 | ⟨g', bs, rfl, hB', hg', hm, hbs⟩
          · omega
          · obtain ⟨x, hx⟩ := hbs j hj
            have hxj : wr.cell? ⟨g', j, none⟩ = some (.int .u8 x) := (blk_cell hg' _).trans hx
            have hxf := blk_frozen hg' j
            have HG' := Aside0.mk hg'
            clear h0 h1 h2 h5 h6 hx hbs hg' hg hc hs
            go_wp2
            go_roundw
            case rel => exact ⟨j + 1, by go_num, ⟨SpR.put HS.out HG'.out _ _⟩, ⟨HB.out.setCell hB' _⟩⟩
            case measure => simp [intOf]; omega
        · have hx0 : wr.cell? ⟨g, k * 5, none⟩ = some (.int .u64 a) := (blk_cell hg _).trans h0
          have hx1 : wr.cell? ⟨g, k * 5 + 1, none⟩ = some (.string b) := (blk_cell hg _).trans h1
          have hx3 : wr.cell? ⟨g, k * 5 + 3, none⟩ = some (.int .u64 p) := (blk_cell hg _).trans h5
          have hx4 : wr.cell? ⟨g, k * 5 + 4, none⟩ = some (.int .u64 q) := (blk_cell hg _).trans h6
          have hf0 := blk_frozen hg (k * 5)
          have hf1 := blk_frozen hg (k * 5 + 1)
          have hf2 := blk_frozen hg (k * 5 + 2)
          have hf3 := blk_frozen hg (k * 5 + 3)
          have hf4 := blk_frozen hg (k * 5 + 4)
          clear h0 h1 h2 h5 h6 hg hc hs h4
          go_wp2
          go_roundw
          case rel => exact ⟨k + 1, by go_num, by omega, ⟨SpR.rec_ HS.out hlt⟩, ⟨((((HB.out.setCell hBg _).setCell hBg _).setCell hBg _).setCell hBg _).setCell hBg _⟩⟩
          case measure => simp [intOf]; omega
    · go_wp2
      go_end0
      exact ⟨rfl, HB.out⟩
theorem spoil_none (B : Nat) (w : World) :
    Calls Tryd.prog 11 #[.slice none 0 0] w fun e w' => e = .returned (.tuple #[]) ∧ Below B w w' := by
  go_enter Tryd.func11, Tryd.ntmps11
  go_wp2
  go_loopw [2] (fun i wr => i = .int .i64 0 ∧ Aside0 (wr = w)) (fun _ _ => 0)
  case atStart => exact ⟨rfl, ⟨rfl⟩⟩
  case round =>
    obtain ⟨rfl, ⟨rfl⟩⟩ := hrel
    go_wp2
    go_end0
    exact ⟨rfl, Below.refl _ _⟩
theorem SpB.of_R {w : World} {B : Nat} {ok : Nat → Prop} {v : Value} {l : List Int} (h : (Kd.int .u8).R 5 w B ok v l) : ∃ A m c, v = .slice A m c ∧ m ≤ 9223372036854775807 ∧ SpB w B A m := by
  obtain ⟨_, inner, hown, hr⟩ := h
  rcases hown.2 with ⟨rfl, _⟩ | ⟨g, cap, cur, rfl, hb, hg, hnc, hcm, hs, ht⟩
  · exact ⟨none, 0, 0, rfl, by omega, .inl rfl⟩
  · have hcm' : cap ≤ 9223372036854775807 := hcm
    have hsz : cur.size = cap := by rw [hs]; exact Nat.mul_one _
    refine ⟨_, _, _, rfl, by omega, .inr ⟨g, cur, rfl, hb, hg, by omega, fun j hj => ?_⟩⟩
    have hk := hr.2 j (l[j]) (List.getElem?_eq_getElem hj)
    have hk' : (inner.drop (j * 1)).take 1 = [Value.int .u8 l[j]] := hk
    refine ⟨l[j], ?_⟩
    have hin : inner[j]? = some (.int .u8 l[j]) := by
      have := congrArg (fun z => z[0]?) hk'
      simpa [List.getElem?_take, List.getElem?_drop] using this
    rw [← ht, List.getElem?_take] at hin
    split at hin
    · rw [← Array.getElem?_toList]; exact hin
    · cases hin
theorem SpR.of_S {w : World} {B g n cap : Nat} {ok : Nat → Prop} {xs : List S48} (h : Kz.S #[(.int .u64 0), (.string ⟨#[]⟩), (.slice none 0 0), (.int .u64 0), (.int .u64 0)] k48 48 w B ok (.slice (some ⟨g, 0, none⟩) n cap) xs) :
    n ≤ cap ∧ cap ≤ 9223372036854775807 ∧ SpR w B g cap := by
  obtain ⟨h1, h2⟩ := h
  obtain ⟨_, inner, hown, hr⟩ := Kd.S_R h1
  rcases hown.2 with ⟨e, _⟩ | ⟨g', cap', cur, e, hb, hg, hnc, hcm, hs, ht⟩
  · cases e
  injection e with e1 e2 e3
  injection e1 with e1
  injection e1 with e1
  subst e1 e3
  obtain ⟨cur', e', hg', hs', hat⟩ := h2 g n cap rfl
  rw [hg] at hg'
  injection hg' with hg'
  injection hg' with hg' _
  subst hg'
  have hcm' : cap ≤ 9223372036854775807 := hcm
  refine ⟨by omega, hcm', hb, cur, hg, hs, fun i hi => ?_⟩
  by_cases hin : i < xs.length
  · have hk := hr.2 i xs[i] (List.getElem?_eq_getElem hin)
    obtain ⟨v2, hcs, hv2⟩ := k48_openM hk
    obtain ⟨A, m, c, rfl, hm, hSB⟩ := SpB.of_R hv2
    have hch : (inner.drop (i * 5)).take 5 = [.int .u64 xs[i].f0, .string xs[i].f1, .slice A m c, .int .u64 xs[i].f3, .int .u64 xs[i].f4] := hcs
    have hget : ∀ (j : Nat) (u : Value), j < 5 → ((inner.drop (i * 5)).take 5)[j]? = some u → cur[i * 5 + j]? = some u := by
      intro j u hj hu
      rw [List.getElem?_take, if_pos hj, List.getElem?_drop, ← ht, List.getElem?_take] at hu
      split at hu
      · rw [← Array.getElem?_toList]; exact hu
      · cases hu
    rw [hch] at hget
    exact ⟨_, _, A, m, c, _, _, hget 0 _ (by omega) rfl, hget 1 _ (by omega) rfl, hget 2 _ (by omega) rfl, hm, hSB, hget 3 _ (by omega) rfl, hget 4 _ (by omega) rfl⟩
  · have hget : ∀ (j : Nat) (u : Value), j < 5 → (#[(.int .u64 0), (.string ⟨#[]⟩), (.slice none 0 0), (.int .u64 0), (.int .u64 0)] : Array Value)[j]! = u → cur[i * 5 + j]? = some u := by
      intro j u hj hu
      have := hat (i * 5 + j) (by show n * 5 ≤ _; omega) (by show _ < cap * 5; omega)
      rw [this, show (i * 5 + j) % Kd.sz k48 = j from by show (i * 5 + j) % 5 = j; omega, hu]
    exact ⟨_, _, none, 0, 0, _, _, hget 0 _ (by omega) rfl, hget 1 _ (by omega) rfl, hget 2 _ (by omega) rfl, by omega, .inl rfl, hget 3 _ (by omega) rfl, hget 4 _ (by omega) rfl⟩
theorem spoil_calls (B : Nat) (ok : Nat → Prop) (v : Value) (xs : List S48) (w : World) (h : Kz.S #[(.int .u64 0), (.string ⟨#[]⟩), (.slice none 0 0), (.int .u64 0), (.int .u64 0)] k48 48 w B ok v xs) :
    Calls Tryd.prog 11 #[v] w fun e w' => e = .returned (.tuple #[]) ∧ Below B w w' := by
  rcases Kd.S_own h.1 with ⟨inner, hown⟩
  rcases hown.2 with ⟨rfl, _⟩ | ⟨g, cap, cur, rfl, _⟩
  · exact spoil_none B w
  · obtain ⟨_, h2, h3⟩ := SpR.of_S h
    exact spoil_some B g _ cap w h2 h3
end Go.Proofs.YtkmffeicgpocgaaDoor.P
