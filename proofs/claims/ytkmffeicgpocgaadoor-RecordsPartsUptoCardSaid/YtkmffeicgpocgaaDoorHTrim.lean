/-
  strings.Trim at a cutset of ASCII bytes (two or more), at this dump's numbers.
-/
import Derived.Test.YtkmffeicgpocgaaDoorPx0
import Derived.Lib.SlTrimSet
import Derived.Lib.AsciiSet
import Derived.Deep.WholeRow
import Derived.Deep.LoopGhost
import Derived.Lib.Walk
import Derived.Shelf.RegionOpenPlain
import Derived.Lib.Strings
import Derived.Lib.IndexBytes
import Derived.Laws.Strings3
import Derived.Laws.ResultCell
namespace Go.Proofs.YtkmffeicgpocgaaDoor.P
open Go.RowKit Go.Proofs.YtkmffeicgpocgaaDoorW.PrintWords Go.Proofs.YtkmffeicgpocgaaDoorW.PrintLast Go.Proofs.YtkmffeicgpocgaaDoorW.PrintMore
set_option maxHeartbeats 1000000 in
theorem set_has (b : Nat) (x : UInt8) (v : Bool) (w : World) (hc : w.cell? ⟨b, x.toNat, none⟩ = some (.bool v)) :
    Calls Tryd.prog 82 #[.pointer (some ⟨b, 0, none⟩), .int .u8 x.toNat] w fun e w' => e = .returned (.bool v) ∧ w' = w := by
  have hx256 : (x.toNat : Int) < 256 := by have := UInt8.toNat_lt x; omega
  go_enter Tryd.func82, Tryd.ntmps82
  go_wp2
  go_ret
  exact ⟨rfl, rfl⟩
set_option maxHeartbeats 2000000 in
set_option maxRecDepth 1000000 in
theorem set_left (s : ByteArray) (b : Nat) (cs : List UInt8) (w : World) (hset : ∀ x : UInt8, w.cell? ⟨b, x.toNat, none⟩ = some (.bool (cs.contains x))) :
    Calls Tryd.prog 65 #[.string s, .pointer (some ⟨b, 0, none⟩)] w fun e w' => e = .returned (.string ⟨(Lib.trimLeftS s.data.toList cs).toArray⟩) ∧ w' = w := by
  have HS := Aside0.mk hset
  clear hset
  go_enter Tryd.func65, Tryd.ntmps65
  go_wp2
  go_loop [0] (fun v => ∃ k : Nat, k ≤ s.size ∧ v = .string ⟨(s.data.toList.drop k).toArray⟩ ∧ ∀ (j : Nat) b, j < k → s.data.toList[j]? = some b → cs.contains b = true) (fun v => Lib.strSize v)
  case atStart => exact ⟨0, Nat.zero_le _, by simp, fun j b hj => absurd hj (Nat.not_lt_zero _)⟩
  case round =>
    obtain ⟨k, hk, rfl, hc⟩ := hrel
    have hts : (⟨(s.data.toList.drop k).toArray⟩ : ByteArray).size = s.size - k := by rw [Lib.size_mk, List.length_drop, ← Lib.size_eq]
    have hb0 : ∀ h, s.data.toList[k]? = some ((⟨(s.data.toList.drop k).toArray⟩ : ByteArray)[0]'h) := by
      intro h
      rw [← Lib.getElem_mk (s.data.toList.drop k) 0 h, List.getElem?_drop]
      rfl
    have hx1 : (⟨(s.data.toList.drop k).toArray⟩ : ByteArray).extract 1 (s.size - k) = ⟨(s.data.toList.drop (k + 1)).toArray⟩ := by
      rw [Lib.extract_mk, List.drop_drop, List.take_of_length_le (by simp; omega)]
    have hK := Aside0.mk hc
    clear hc
    generalize ht : (⟨(s.data.toList.drop k).toArray⟩ : ByteArray) = t at hts hb0 hx1 ⊢
    have hK3 := Aside0.mk ht
    clear ht
    have hkl : Aside0 (k ≤ s.data.toList.length) := ⟨by rw [← Lib.size_eq]; exact hk⟩
    by_cases h0 : 0 < t.size
    · have hK2 := Aside0.mk (hb0 h0)
      clear hb0
      have hcx := HS.out (t[0]'h0)
      cases hin : cs.contains (t[0]'h0) <;> rw [hin] at hcx
      · have HI := Aside0.mk hin
        clear hin
        go_wp2_with (go_at_call 82; refine (set_has _ (t[0]'h0) _ _ hcx).mono ?_; rintro e w' ⟨rfl, hw⟩; rw [hw])
        go_ret
        refine ⟨?_, rfl⟩
        show Ending.returned (Value.string t) = _
        rw [Lib.trimLeftS_drop s.data.toList cs k hkl.out hK.out (fun b hb => by
          rw [hK2.out] at hb
          rw [← Option.some.inj hb]
          exact HI.out), hK3.out]
      · have HI := Aside0.mk hin
        clear hin
        go_wp2_with (go_at_call 82; refine (set_has _ (t[0]'h0) _ _ hcx).mono ?_; rintro e w' ⟨rfl, hw⟩; rw [hw])
        refine ⟨⟨k + 1, by omega, rfl, fun j b hj hb => ?_⟩, ?_⟩
        · by_cases e : j = k
          · subst e
            have h3 : s.data.toList[j]? = some b := by simpa using hb
            rw [hK2.out] at h3
            rw [← Option.some.inj h3]
            exact HI.out
          · exact hK.out j b (by omega) (by simpa using hb)
        · rw [Lib.strSize_string, Lib.strSize_string, Lib.size_mk, List.length_drop, ← Lib.size_eq]
          omega
    · clear hb0
      go_wp2
      go_ret
      refine ⟨?_, rfl⟩
      show Ending.returned (Value.string t) = _
      rw [Lib.trimLeftS_drop s.data.toList cs k hkl.out hK.out (fun b hb => by
        have : s.data.toList.length ≤ k := by rw [← Lib.size_eq]; omega
        simp [List.getElem?_eq_none this] at hb), hK3.out]
set_option maxHeartbeats 2000000 in
set_option maxRecDepth 1000000 in
theorem set_right (s : ByteArray) (b : Nat) (cs : List UInt8) (w : World) (hs : s.size ≤ 9223372036854775807) (hset : ∀ x : UInt8, w.cell? ⟨b, x.toNat, none⟩ = some (.bool (cs.contains x))) :
    Calls Tryd.prog 66 #[.string s, .pointer (some ⟨b, 0, none⟩)] w fun e w' => e = .returned (.string ⟨(Lib.trimRightS s.data.toList cs).toArray⟩) ∧ w' = w := by
  have HS := Aside0.mk hset
  clear hset
  go_enter Tryd.func66, Tryd.ntmps66
  go_wp2
  go_loop [0] (fun v => ∃ k : Nat, k ≤ s.size ∧ v = .string ⟨(s.data.toList.take k).toArray⟩ ∧ ∀ (j : Nat) b, k ≤ j → s.data.toList[j]? = some b → cs.contains b = true) (fun v => Lib.strSize v)
  case atStart =>
    refine ⟨s.size, Nat.le_refl _, ?_, fun j b hj hb => ?_⟩
    · rw [Lib.size_eq, List.take_length, Lib.mk_data]
    · have : s.data.toList.length ≤ j := by rw [← Lib.size_eq]; exact hj
      simp [List.getElem?_eq_none this] at hb
  case round =>
    obtain ⟨k, hk, rfl, hc⟩ := hrel
    have hkl : k ≤ s.data.toList.length := by rw [← Lib.size_eq]; exact hk
    have hts : (⟨(s.data.toList.take k).toArray⟩ : ByteArray).size = k := by rw [Lib.size_mk, List.length_take]; omega
    have hb0 : ∀ h, s.data.toList[k - 1]? = some ((⟨(s.data.toList.take k).toArray⟩ : ByteArray)[k - 1]'h) := by
      intro h
      rw [← Lib.getElem_mk (s.data.toList.take k) (k - 1) h, List.getElem?_take]
      rw [hts] at h
      rw [if_pos h]
    have hx1 : (⟨(s.data.toList.take k).toArray⟩ : ByteArray).extract 0 (k - 1) = ⟨(s.data.toList.take (k - 1)).toArray⟩ := by
      rw [Lib.extract_mk, List.drop_zero, List.take_take]
      congr 3
      omega
    have hK := Aside0.mk hc
    clear hc
    have hkl' := Aside0.mk hkl
    clear hkl
    generalize ht : (⟨(s.data.toList.take k).toArray⟩ : ByteArray) = t at hts hb0 hx1 ⊢
    have hK3 := Aside0.mk ht
    clear ht
    by_cases h0 : 0 < k
    · have h1 : k - 1 < t.size := by omega
      have hwr : ((k : Int) - 1 + 9223372036854775808) % 18446744073709551616 - 9223372036854775808 = ((k - 1 : Nat) : Int) := by omega
      have hK2 := Aside0.mk (hb0 h1)
      clear hb0
      have hcx := HS.out (t[k - 1]'h1)
      cases hin : cs.contains (t[k - 1]'h1) <;> rw [hin] at hcx
      · have HI := Aside0.mk hin
        clear hin
        go_wp2_with (go_at_call 82; refine (set_has _ (t[k - 1]'h1) _ _ hcx).mono ?_; rintro e w' ⟨rfl, hw⟩; rw [hw])
        go_ret
        refine ⟨?_, rfl⟩
        show Ending.returned (Value.string t) = _
        rw [Lib.trimRightS_take s.data.toList cs k hkl'.out hK.out (fun b _ hb => by
          rw [hK2.out] at hb
          rw [← Option.some.inj hb]
          exact HI.out), hK3.out]
      · have HI := Aside0.mk hin
        clear hin
        go_wp2_with (go_at_call 82; refine (set_has _ (t[k - 1]'h1) _ _ hcx).mono ?_; rintro e w' ⟨rfl, hw⟩; rw [hw])
        refine ⟨⟨k - 1, by omega, rfl, fun j b hj hb => ?_⟩, ?_⟩
        · by_cases e : j = k - 1
          · subst e
            have h3 : s.data.toList[k - 1]? = some b := by simpa using hb
            rw [hK2.out] at h3
            rw [← Option.some.inj h3]
            exact HI.out
          · exact hK.out j b (by omega) (by simpa using hb)
        · have hkl : k ≤ s.data.toList.length := hkl'.out
          rw [Lib.strSize_string, Lib.strSize_string, Lib.size_mk, List.length_take]
          omega
    · clear hb0
      go_wp2
      go_ret
      refine ⟨?_, rfl⟩
      show Ending.returned (Value.string t) = _
      rw [Lib.trimRightS_take s.data.toList cs k hkl'.out hK.out (fun b hk0 _ => absurd hk0 h0), hK3.out]
section
variable {P : Program} {op : Oper} {a : Act} {w : World} {K : Act → World → Prop} {Q : Exit → Act → World → Prop}
theorem wp_loadAt (ty : TypeId) (x : Operand) (ho : op.op = .load ty x) {p v : Value} (hx : a.eval x = p) (hr : (Instr.loadAt ty p).run P w = .ok v w) (h : K (a.put op.dst v) w) : op.wp P a w K Q := by
  unfold Oper.wp execOp
  simp only [ho, hx, Sem.run_bind, hr, Sem.run_pure, Result.andThen_ok]
  exact h
end
set_option maxHeartbeats 4000000 in
set_option maxRecDepth 1000000 in
theorem set_make (chars : ByteArray) (w : World) (hs : chars.size < 4294967281) (hascii : ∀ (j : Nat) b, chars.data.toList[j]? = some b → b.toNat < 128) :
    Calls Tryd.prog 64 #[.string chars] w fun e w' => e = .returned (.tuple #[.agg (Lib.setCells chars.data.toList), .bool true]) ∧ w' = w.alloc (.cells (Lib.setCells chars.data.toList) 100) := by
  have HA := Aside0.mk hascii
  clear hascii
  have hi116 : (Tryd.prog.info? 100).map (·.size) = some 256 := by kernel_rfl
  go_enter Tryd.func64, Tryd.ntmps64
  go_wp2
  rw [show Tryd.zeroCells100 = Lib.setCells [] from by kernel_rfl]
  go_loopg [4] chars.size (fun g s4 wx => ∃ i : Nat, i + g = chars.size ∧ s4 = .int .i64 i ∧ wx = w.alloc (.cells (Lib.setCells (chars.data.toList.take i)) 100))
  case atStart => exact ⟨0, by omega, rfl, rfl⟩
  case round =>
    obtain ⟨i, hig, rfl, rfl⟩ := hrel
    cases gk with
    | zero =>
      obtain rfl : i = chars.size := by omega
      have hiz : ¬ ((chars.size : Int) < (chars.size : Int)) := by omega
      rw [show chars.data.toList.take chars.size = chars.data.toList from List.take_of_length_le (by rw [← Lib.size_eq]; exact Nat.le_refl _)]
      have hsz := Lib.setCells_size chars.data.toList
      have hla := Aside0.mk (run_loadAt_new (P := Tryd.prog) w 100 (Lib.setCells chars.data.toList) 256 4 Tryd.underlying100 (by rw [hsz]; exact hi116))
      have hld := Aside0.mk (run_loadVar_new (P := Tryd.prog) w 100 (Lib.setCells chars.data.toList) 256 4 Tryd.underlying100 (by rw [hsz]; exact hi116))
      go_wp2
      refine wp_loadAt 100 (.tmp 2) rfl (by rfl) hla.out ?_
      have hsc := run_storeCells_new (P := Tryd.prog) w 100 (Lib.setCells chars.data.toList) (Lib.setCells chars.data.toList) (by rw [hsz]; exact hi116) rfl (Lib.setCells_one _)
      go_wp2
      refine bodyPost_ret (v := .tuple #[.agg (Lib.setCells chars.data.toList), .bool true]) ?_ rfl ⟨rfl, rfl⟩
      rw [results_cell_tmp rfl]
      simp [asAddr, Result.andThen, hld.out]
    | succ g =>
      have hi : i < chars.size := by omega
      have hiz : (i : Int) < (chars.size : Int) := by omega
      obtain ⟨x, hx⟩ : ∃ x : UInt8, chars[i]'hi = x := ⟨_, rfl⟩
      have hxl : chars.data.toList[i]? = some x := by rw [← hx]; exact Lib.data_getElem? chars i hi
      have hx128 : ¬ ((128 : Int) ≤ (x.toNat : Int)) := by have := HA.out i x hxl; omega
      have hx256 : (x.toNat : Int) < 256 := by have := HA.out i x hxl; omega
      have hcell := Lib.setCells_at (chars.data.toList.take i) x
      have Hx := Aside0.mk hxl
      clear hxl
      go_wp2
      go_roundg g
      case measure => omega
      case rel => exact ⟨i + 1, by omega, by first | rfl | simp, by rw [List.take_add_one, Hx.out]; simp only [Option.toList]; rw [Lib.setCells_snoc]⟩
end Go.Proofs.YtkmffeicgpocgaaDoor.P
