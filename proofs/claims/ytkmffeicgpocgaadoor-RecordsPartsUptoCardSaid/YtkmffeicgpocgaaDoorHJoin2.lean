/-
  records.Join, whole: 'joinR'.
-/
import Derived.Test.YtkmffeicgpocgaaDoorHPlain2
namespace Go.Proofs.YtkmffeicgpocgaaDoor.P
open Go.RowKit Go.Proofs.YtkmffeicgpocgaaDoorW.PrintWords Go.Proofs.YtkmffeicgpocgaaDoorW.PrintLast Go.Proofs.YtkmffeicgpocgaaDoorW.PrintMore
def Joined (w : World) (j : List S48 × List Int × List Int × Int) (e : Ending) (w' : World) : Prop :=
  ∃ v0 v1 v2 : Value, e = .returned (.tuple #[v0, v1, v2, .int .i64 j.2.2.2]) ∧
    Kz.S #[(.int .u64 0), (.string ⟨#[]⟩), (.slice none 0 0), (.int .u64 0), (.int .u64 0)] k48 48 w' w.heap.size (fun _ => True) v0 j.1 ∧ Kd.R (Kd.int .u64) 37 w' w.heap.size (fun _ => True) v1 j.2.1 ∧ Kd.R (Kd.int .u64) 37 w' w.heap.size (fun _ => True) v2 j.2.2.1 ∧ Below w.heap.size w w'
theorem Joined.early (w : World) (n : Int) (w' : World) (hb : Below w.heap.size w w') : Joined w ([], [], [], n) (.returned (.tuple #[.slice none 0 0, .slice none 0 0, .slice none 0 0, .int .i64 n])) w' :=
  ⟨_, _, _, rfl, Kz.S_nil _ _ _ _ _ _, Kd.R_nil _ _ _ _ _, Kd.R_nil _ _ _ _ _, hb⟩
section
variable (A1 A2 : Option Addr) (c1 c2 : Nat) (l1 l2 : List S48) (w : World) (hC1 : Kd.C k48 w A1 l1.length l1) (hC2 : Kd.C k48 w A2 l2.length l2) (h1 : l1.length ≤ c1) (h2 : l2.length ≤ c2) (b1 : l1.length ≤ 1048576) (b2 : l2.length ≤ 1048576)
include hC1 hC2 h1 h2 b1 b2
omit hC2 h2 b2 in
set_option maxHeartbeats 2000000 in
theorem join_no1 (hl : isLog l1 = false) : Calls Tryd.prog 12 #[.slice A1 l1.length c1, .slice A2 l2.length c2] w (Joined w ([], [], [], 1)) := by
  have HK1 := Aside0.mk (records_Log.calls (l1.length + 1) A1 c1 l1 false w hC1 h1 (by rw [log_f l1 (by omega) _ (by omega), hl]))
  clear hC1
  go_enter Tryd.func12, Tryd.ntmps12
  go_wp2_with fail
  refine HK1.out.mono ?_
  rintro e w1 ⟨rfl, hb1⟩
  have HB := Aside0.mk hb1
  clear hb1
  go_wp2
  refine bodyPost_ret (results_list (rs := [.tmp 4, .tmp 5, .tmp 6, .tmp 7]) rfl (by simp) (.tmp (.tmp (.tmp (.tmp .nil))))) rfl ?_
  exact Joined.early w 1 _ HB.out
set_option maxHeartbeats 2000000 in
theorem join_no2 (hl : isLog l1 = true) (hl2 : isLog l2 = false) : Calls Tryd.prog 12 #[.slice A1 l1.length c1, .slice A2 l2.length c2] w (Joined w ([], [], [], 1)) := by
  have HK1 := Aside0.mk (records_Log.calls (l1.length + 1) A1 c1 l1 true w hC1 h1 (by rw [log_f l1 (by omega) _ (by omega), hl]))
  have HK2 := Aside0.mk (fun W hb => records_Log.calls (l2.length + 1) A2 c2 l2 false W (Kd.C_below hC2 hb) h2 (by rw [log_f l2 (by omega) _ (by omega), hl2]))
  clear hC1 hC2
  go_enter Tryd.func12, Tryd.ntmps12
  go_wp2_with fail
  refine HK1.out.mono ?_
  rintro e w1 ⟨rfl, hb1⟩
  have HB1 := Aside0.mk hb1
  clear hb1
  go_wp2_with fail
  refine (HK2.out _ HB1.out).mono ?_
  rintro e w2 ⟨rfl, hb2⟩
  have HB := Aside0.mk (below_step HB1.out hb2)
  clear hb2
  go_wp2
  refine bodyPost_ret (results_list (rs := [.tmp 4, .tmp 5, .tmp 6, .tmp 7]) rfl (by simp) (.tmp (.tmp (.tmp (.tmp .nil))))) rfl ?_
  exact Joined.early w 1 _ HB.out
set_option maxHeartbeats 2000000 in
theorem join_full (hl : isLog l1 = true) (hl2 : isLog l2 = true) (hs : 4096 < l1.length + l2.length) : Calls Tryd.prog 12 #[.slice A1 l1.length c1, .slice A2 l2.length c2] w (Joined w ([], [], [], 143)) := by
  have HK1 := Aside0.mk (records_Log.calls (l1.length + 1) A1 c1 l1 true w hC1 h1 (by rw [log_f l1 (by omega) _ (by omega), hl]))
  have HK2 := Aside0.mk (fun W hb => records_Log.calls (l2.length + 1) A2 c2 l2 true W (Kd.C_below hC2 hb) h2 (by rw [log_f l2 (by omega) _ (by omega), hl2]))
  have s0 : l1.length + l2.length ≤ 2097152 := by omega
  have s1 : decide ((4096 : Int) < (l1.length : Int) + (l2.length : Int)) = true := decide_eq_true (by omega)
  clear hC1 hC2
  go_enter Tryd.func12, Tryd.ntmps12
  go_wp2_with fail
  refine HK1.out.mono ?_
  rintro e w1 ⟨rfl, hb1⟩
  have HB1 := Aside0.mk hb1
  clear hb1
  go_wp2_with fail
  refine (HK2.out _ HB1.out).mono ?_
  rintro e w2 ⟨rfl, hb2⟩
  have HB := Aside0.mk (below_step HB1.out hb2)
  clear hb2
  go_wp2
  refine bodyPost_ret (results_list (rs := [.tmp 4, .tmp 5, .tmp 6, .tmp 7]) rfl (by simp) (.tmp (.tmp (.tmp (.tmp .nil))))) rfl ?_
  exact Joined.early w 143 _ HB.out
theorem join_calls : Calls Tryd.prog 12 #[.slice A1 l1.length c1, .slice A2 l2.length c2] w (Joined w (joinR l1 l2)) := by
  by_cases hl : isLog l1 = true
  · by_cases hl2 : isLog l2 = true
    · have h1' := hl
      have h2' := hl2
      unfold isLog at h1' h2'
      simp only [Bool.and_eq_true, decide_eq_true_eq] at h1' h2'
      unfold joinR
      rw [if_pos ⟨hl, hl2⟩]
      by_cases hs : l1.length + l2.length > 4096
      · rw [if_pos hs]
        exact join_full A1 A2 c1 c2 l1 l2 w hC1 hC2 h1 h2 b1 b2 hl hl2 hs
      · rw [if_neg hs]
        refine (join_loop (jn (l1.length + l2.length) l1 l2 [] [] []) A1 A2 c1 c2 l1 l2 w hC1 hC2 h1 h2 ⟨l1.length + 1, by rw [log_f l1 (by omega) _ (by omega), hl]⟩ ⟨l2.length + 1, by rw [log_f l2 (by omega) _ (by omega), hl2]⟩ (logFrom_vals l1 0 h1'.1) (logFrom_vals l2 0 h2'.1) (by omega) rfl).mono ?_
        rintro e w' ⟨v0, v1, v2, r1, r2, r3, r4, rfl, hr, hS, hA, hB, hb⟩
        rcases hr with ⟨hn, rfl, rfl, rfl, rfl⟩ | ⟨hn, e2, e3, rfl⟩
        · rw [hn]
          exact ⟨v0, v1, v2, rfl, hS, hA, hB, hb⟩
        · rw [hn]
          refine ⟨v0, v1, v2, rfl, hS, ?_, ?_, hb⟩
          · show Kd.R _ _ _ _ _ v1 (r2.dropLast ++ [(r1.length : Int)])
            rw [← e2]
            exact hA
          · show Kd.R _ _ _ _ _ v2 (r3.dropLast ++ [(r1.length : Int)])
            rw [← e3]
            exact hB
    · have hl2 := Bool.eq_false_iff.mpr hl2
      unfold joinR
      rw [if_neg (by rw [hl2]; simp)]
      exact join_no2 A1 A2 c1 c2 l1 l2 w hC1 hC2 h1 h2 b1 b2 hl hl2
  · have hl := Bool.eq_false_iff.mpr hl
    unfold joinR
    rw [if_neg (by rw [hl]; simp)]
    exact join_no1 A1 A2 c1 c2 l1 l2 w hC1 h1 b1 hl
end
end Go.Proofs.YtkmffeicgpocgaaDoor.P
