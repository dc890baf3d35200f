/-
  gazettelaw14.RecordsParts: the walk of the law.
-/
import Derived.Test.YtkmffeicgpocgaaDoorHLives
import Derived.Test.YtkmffeicgpocgaaDoorHJoin2
import Derived.Test.YtkmffeicgpocgaaDoorHSpoil
namespace Go.Proofs.YtkmffeicgpocgaaDoor.P
open Go.RowKit Go.Proofs.YtkmffeicgpocgaaDoorW.PrintWords Go.Proofs.YtkmffeicgpocgaaDoorW.PrintLast Go.Proofs.YtkmffeicgpocgaaDoorW.PrintMore
theorem heap48 : Kd.Heap k48 := Kd.heap_iso _ (Kd.heap_pair (Kd.heap_int _) (Kd.heap_pair Kd.heap_string (Kd.heap_pair (Kd.heap_slice 5 (Kd.heap_int _)) (Kd.heap_pair (Kd.heap_int _) (Kd.heap_int _)))))
theorem keepF_len (p : ByteArray → Bool) : ∀ (l out : List S48) (tt : List Int), (keepF p l out tt).1.length ≤ out.length + l.length ∧ (keepF p l out tt).2.length = tt.length + l.length + 1
  | [], out, tt => by simp [keepF]
  | x :: r, out, tt => by
    unfold keepF
    split
    · have := keepF_len p r (out ++ [ownR x out.length]) (tt ++ [(out.length : Int)])
      simp only [List.length_append, List.length_cons, List.length_nil] at this ⊢
      omega
    · have := keepF_len p r out (tt ++ [(out.length : Int)])
      simp only [List.length_append, List.length_cons, List.length_nil] at this ⊢
      omega
theorem keep_len (r0 r1 : ByteArray) (l : List S48) : (keep r0 r1 l).1.length ≤ l.length ∧ (keep r0 r1 l).2.length ≤ l.length + 1 := by
  unfold keep
  have := keepF_len (has r0 r1) l [] []
  simp only [List.length_nil] at this
  split
  · split
    · omega
    · simp
  · simp
theorem jn_len : ∀ (n : Nat) (a b out : List S48) (tA tB : List Int) (o : List S48) (x y : List Int), jn n a b out tA tB = some (o, x, y) → o.length = out.length + n ∧ x.length ≤ tA.length + n ∧ y.length ≤ tB.length + n
  | 0, a, b, out, tA, tB, o, x, y, h => by
    simp only [jn, Option.some.injEq, Prod.mk.injEq] at h
    obtain ⟨rfl, rfl, rfl⟩ := h
    simp
  | n + 1, a, b, out, tA, tB, o, x, y, h => by
    unfold jn at h
    split at h
    · have := jn_len n _ _ _ _ _ _ _ _ h
      simp only [List.length_append, List.length_cons, List.length_nil] at this
      omega
    · split at h
      · have := jn_len n _ _ _ _ _ _ _ _ h
        simp only [List.length_append, List.length_cons, List.length_nil] at this
        omega
      · cases h
theorem joinR_len (a b : List S48) : (joinR a b).1.length ≤ 10000000 ∧ (joinR a b).2.1.length ≤ 10000000 ∧ (joinR a b).2.2.1.length ≤ 10000000 := by
  unfold joinR
  split
  · split
    · simp
    · cases h : jn (a.length + b.length) a b [] [] [] with
      | none => simp [jres]
      | some r =>
        obtain ⟨o, x, y⟩ := r
        have := jn_len _ _ _ _ _ _ _ _ _ h
        simp only [jres, List.length_append, List.length_cons, List.length_nil] at this ⊢
        omega
  · simp
set_option maxHeartbeats 4000000 in
set_option maxRecDepth 100000 in
theorem law_calls (A0 A1 : Option Addr) (c0 c1 : Nat) (l0 l1 : List S48) (r0 r1 : ByteArray) (w : World) (hC0 : Kd.C k48 w A0 l0.length l0) (hC1 : Kd.C k48 w A1 l1.length l1) (h0 : l0.length ≤ c0) (h1 : l1.length ≤ c1) (b0 : l0.length ≤ 1048576) (b1 : l1.length ≤ 1048576)
    (v0 : ∀ x ∈ l0, x.f2.length ≤ 10000000) (v1 : ∀ x ∈ l1, x.f2.length ≤ 10000000) :
    Calls Tryd.prog 3 #[.slice A0 l0.length c0, .slice A1 l1.length c1, .agg #[.string r0, .string r1]] w fun e w' => e = .returned (.bool true) ∧ Below w.heap.size w w' := by
  obtain ⟨K, hK⟩ : ∃ K, 3000000 < K := ⟨_, Nat.lt_succ_self _⟩
  obtain ⟨kk, hkk⟩ : ∃ x, x = keep r0 r1 l0 := ⟨_, rfl⟩
  obtain ⟨jj, hjj⟩ : ∃ x, x = joinR l0 l1 := ⟨_, rfl⟩
  have F0 := Aside0.mk (lown_f l0 b0 v0 K (by omega))
  have F1 := Aside0.mk (lown_f l1 b1 v1 K (by omega))
  have FK := Aside0.mk (keep_f l0 (by omega) r0 r1 K (by omega))
  have FR := Aside0.mk (rkeep_f l0 (by omega) r0 r1 K (by omega))
  have FJ := Aside0.mk (rjoin_f l0 l1 b0 b1 K (by omega))
  have LK := Aside0.mk (keep_len r0 r1 l0)
  have LJ := Aside0.mk (joinR_len l0 l1)
  rw [← hkk] at FK FR LK
  rw [← hjj] at FJ LJ
  have EJ := Aside0.mk hjj
  have HC0 := Aside0.mk hC0
  have HC1 := Aside0.mk hC1
  clear hC0 hC1 v0 v1 hkk hjj
  obtain ⟨kl, kt⟩ := kk
  obtain ⟨jl, ja, jb, je⟩ := jj
  have SK := Aside0.mk (same_f kl (by have := LK.out.1; simp only at this; omega) K (by have := LK.out.1; simp only at this; omega))
  have SKT := Aside0.mk (sameTo_f kt (by have := LK.out.2; simp only at this; omega) K (by have := LK.out.2; simp only at this; omega))
  have SJ := Aside0.mk (fun k (hk : 10000000 < k) => same_f jl LJ.out.1 k (by have := LJ.out.1; simp only at this; omega))
  have SJA := Aside0.mk (fun k (hk : 10000000 < k) => sameTo_f ja LJ.out.2.1 k (by have := LJ.out.2.1; simp only at this; omega))
  have SJB := Aside0.mk (fun k (hk : 10000000 < k) => sameTo_f jb LJ.out.2.2 k (by have := LJ.out.2.2; simp only at this; omega))
  have S0 := Aside0.mk (same_f l0 (by omega) K (by omega))
  have S1 := Aside0.mk (same_f l1 (by omega) K (by omega))
  go_enter Tryd.func3, Tryd.ntmps3
  go_wp2_with fail
  obtain ⟨gb, hgb⟩ : ∃ g, g = w.heap.size := ⟨_, rfl⟩
  have hbox : (w.alloc (.cells #[.string r0, .string r1] 24)).heap[gb]? = some (.cells #[.string r0, .string r1] 24 (0, 0)) := by rw [hgb]; exact heap_alloc_new _ _
  have hB := below_alloc (Below.refl w.heap.size w) (.cells #[.string r0, .string r1] 24)
  rw [← hgb]
  generalize w.alloc (.cells #[.string r0, .string r1] 24) = W1 at hbox hB ⊢
  clear hgb
  refine (lives_calls W1).mono ?_
  rintro e W2 ⟨rfl, hb⟩
  have HBX := Aside0.mk ((hb.block gb (blk_lt hbox)).trans hbox)
  have HB2 := Aside0.mk (below_step hB hb)
  clear hb hB hbox
  go_wp2_with fail
  refine (gazettelaw14_own.calls K A0 c0 l0 l0 W2 (Kd.C_below HC0.out HB2.out) h0 F0.out).mono ?_
  rintro e W3 ⟨vp, rfl, hs, hb⟩
  obtain ⟨Ap, cp, rfl, hcp, hp⟩ := Kd.R_reads (Kd.S_R hs)
  have HBX := Aside0.mk ((hb.block gb (blk_lt HBX.out)).trans HBX.out)
  have HB3 := Aside0.mk (below_step HB2.out hb)
  have HP := Aside0.mk hp
  clear hb hs hp HB2
  go_wp2_with fail
  refine (gazettelaw14_own.calls K A1 c1 l1 l1 W3 (Kd.C_below HC1.out HB3.out) h1 F1.out).mono ?_
  rintro e W4 ⟨vq, rfl, hs, hb⟩
  obtain ⟨Aq, cq, rfl, hcq, hq⟩ := Kd.R_reads (Kd.S_R hs)
  have HBX := Aside0.mk ((hb.block gb (blk_lt HBX.out)).trans HBX.out)
  have HB4 := Aside0.mk (below_step HB3.out hb)
  have HP := Aside0.mk (Kd.C_below HP.out hb)
  have HQ := Aside0.mk hq
  have HA := Aside0.mk (Kd.C_below HC0.out HB4.out)
  have HE := Aside0.mk (Kd.C_below HC1.out HB4.out)
  clear hb hs hq HB3 HC0 HC1
  have cx0 : W4.cell? ⟨gb, 0, none⟩ = some (.string r0) := (blk_cell HBX.out 0).trans rfl
  have cx1 : W4.cell? ⟨gb, 1, none⟩ = some (.string r1) := (blk_cell HBX.out 1).trans rfl
  go_wp2_with fail
  refine (records_Keep.calls K Ap cp l0 r0 r1 kl kt W4 HP.out hcp FK.out).mono ?_
  rintro e W5 ⟨vk, vt, rfl, hs, hr, hb⟩
  have HB5 := Aside0.mk hb
  have HSK := Aside0.mk hs
  have HRT := Aside0.mk hr
  clear hb hs hr cx0 cx1
  have cx0 : W5.cell? ⟨gb, 0, none⟩ = some (.string r0) := (blk_cell ((HB5.out.block gb (blk_lt HBX.out)).trans HBX.out) 0).trans rfl
  have cx1 : W5.cell? ⟨gb, 1, none⟩ = some (.string r1) := (blk_cell ((HB5.out.block gb (blk_lt HBX.out)).trans HBX.out) 1).trans rfl
  go_wp2_with fail
  refine (gazetteref14_Keep.calls K A0 c0 l0 r0 r1 kl kt W5 (Kd.C_below HA.out HB5.out) h0 FR.out).mono ?_
  rintro e W6 ⟨vl, va, rfl, hs, hr, hb⟩
  clear cx0 cx1
  have HB6 := Aside0.mk (below_step HB5.out hb)
  have HSK := Aside0.mk (Kz.S_below HSK.out hb)
  obtain ⟨Ak, ck, rfl, hck, hk⟩ := Kd.R_reads (Kd.S_R HSK.out.1)
  obtain ⟨At, ct, rfl, hct, ht⟩ := Kd.R_reads (Kd.R_below HRT.out hb)
  obtain ⟨Al, cl, rfl, hcl, hl⟩ := Kd.R_reads (Kd.S_R hs)
  obtain ⟨Aa, ca, rfl, hca, ha⟩ := Kd.R_reads hr
  have XK := Aside0.mk hk
  have XT := Aside0.mk ht
  have XL := Aside0.mk hl
  have XA := Aside0.mk ha
  clear hb hs hr HB5 HRT hk ht hl ha
  go_wp2_with fail
  refine (gazetteref14_Same.calls K Ak ck kl Al cl kl true W6 XK.out hck XL.out hcl SK.out).mono ?_
  rintro e W7 ⟨rfl, hd⟩
  have HB67 := Aside0.mk hd.below
  clear hd
  go_wp2_with fail
  refine (gazetteref14_SameTo.calls K At ct kt Aa ca kt true W7 (Kd.C_below XT.out HB67.out) hct (Kd.C_below XA.out HB67.out) hca SKT.out).mono ?_
  rintro e W8 ⟨rfl, hd⟩
  have HB68 := Aside0.mk (below_step HB67.out hd.below)
  have HB8 := Aside0.mk (below_step HB6.out HB68.out)
  clear hd HB67 HB6 XK XT XL XA
  go_wp2_with fail
  refine (spoil_calls W4.heap.size _ _ kl W8 (Kz.S_below HSK.out HB68.out)).mono ?_
  rintro e W9 ⟨rfl, hb⟩
  have HB9 := Aside0.mk (HB8.out.trans hb)
  clear hb HB8 HB68 HSK
  have HJN := Aside0.mk (join_calls Ap Aq cp cq l0 l1 W9 (Kd.C_below HP.out HB9.out) (Kd.C_below HQ.out HB9.out) hcp hcq b0 b1)
  rw [← EJ.out] at HJN
  clear HBX EJ
  go_wp2_with fail
  refine HJN.out.mono ?_
  rintro e W10 ⟨vj, vja, vjb, rfl, hs, hra, hrb, hb⟩
  have HB10 := Aside0.mk (below_step HB9.out hb)
  have HSJ := Aside0.mk hs
  have HRA := Aside0.mk hra
  have HRB := Aside0.mk hrb
  have HB910 := Aside0.mk hb
  clear hb hs hra hrb HJN
  have HV0 := Aside0.mk (Kd.V_mk (d := k48) (e := 48) (W := W10) (base := W10.heap.size) h0 (Kd.C_F heap48 (Kd.C_below HA.out HB10.out)))
  have HV1 := Aside0.mk (Kd.V_mk (d := k48) (e := 48) (W := W10) (base := W10.heap.size) h1 (Kd.C_F heap48 (Kd.C_below HE.out HB10.out)))
  go_wp2_with fail
  refine (gazetteref14_Join.calls K _ A0 c0 l0 _ A1 c1 l1 jl ja jb je W10 HV0.out HV1.out FJ.out).mono ?_
  rintro e W11 ⟨vm, vma, vmb, rfl, hs, hra, hrb, hb⟩
  have HB11 := Aside0.mk (below_step HB10.out hb)
  have HB911 := Aside0.mk (below_step HB910.out hb)
  have HSJ := Aside0.mk (Kz.S_below HSJ.out hb)
  obtain ⟨Aj, cj, rfl, hcj, hj⟩ := Kd.R_reads (Kd.S_R HSJ.out.1)
  obtain ⟨Aja, cja, rfl, hcja, hja⟩ := Kd.R_reads (Kd.R_below HRA.out hb)
  obtain ⟨Ajb, cjb, rfl, hcjb, hjb⟩ := Kd.R_reads (Kd.R_below HRB.out hb)
  obtain ⟨Am, cm, rfl, hcm, hm⟩ := Kd.R_reads (Kd.S_R hs)
  obtain ⟨Ama, cma, rfl, hcma, hma⟩ := Kd.R_reads hra
  obtain ⟨Amb, cmb, rfl, hcmb, hmb⟩ := Kd.R_reads hrb
  have XJ := Aside0.mk hj
  have XJA := Aside0.mk hja
  have XJB := Aside0.mk hjb
  have XM := Aside0.mk hm
  have XMA := Aside0.mk hma
  have XMB := Aside0.mk hmb
  clear hb hs hra hrb HV0 HV1 HRA HRB hj hja hjb hm hma hmb HB10 HB910
  go_wp2_with fail
  refine (gazetteref14_Same.calls 10000001 Aj cj jl Am cm jl true W11 XJ.out hcj XM.out hcm (SJ.out _ (Nat.lt_succ_self _))).mono ?_
  rintro e W12 ⟨rfl, hd⟩
  have HB12 := Aside0.mk hd.below
  clear hd
  go_wp2_with fail
  refine (gazetteref14_SameTo.calls 10000001 Aja cja ja Ama cma ja true W12 (Kd.C_below XJA.out HB12.out) hcja (Kd.C_below XMA.out HB12.out) hcma (SJA.out _ (Nat.lt_succ_self _))).mono ?_
  rintro e W13 ⟨rfl, hd⟩
  have HB13 := Aside0.mk (below_step HB12.out hd.below)
  clear hd
  go_wp2_with fail
  refine (gazetteref14_SameTo.calls 10000001 Ajb cjb jb Amb cmb jb true W13 (Kd.C_below XJB.out HB13.out) hcjb (Kd.C_below XMB.out HB13.out) hcmb (SJB.out _ (Nat.lt_succ_self _))).mono ?_
  rintro e W14 ⟨rfl, hd⟩
  have HB14 := Aside0.mk (below_step HB13.out hd.below)
  have HB4_14 := Aside0.mk (below_step HB11.out HB14.out)
  clear hd XJ XJA XJB XM XMA XMB HB12 HB13
  go_wp2_with fail
  refine (spoil_calls W9.heap.size _ _ jl W14 (Kz.S_below HSJ.out HB14.out)).mono ?_
  rintro e W15 ⟨rfl, hb⟩
  have HB15 := Aside0.mk (HB4_14.out.trans (hb.mono HB9.out.size))
  clear hb HB14 HB4_14 HSJ HB11 HB911
  go_wp2_with fail
  refine (gazetteref14_Same.calls K Ap cp l0 A0 c0 l0 true W15 (Kd.C_below HP.out HB15.out) hcp (Kd.C_below HA.out HB15.out) h0 S0.out).mono ?_
  rintro e W16 ⟨rfl, hd⟩
  have HB16 := Aside0.mk (below_step HB15.out hd.below)
  clear hd
  go_wp2_with fail
  refine (gazetteref14_Same.calls K Aq cq l1 A1 c1 l1 true W16 (Kd.C_below HQ.out HB16.out) hcq (Kd.C_below HE.out HB16.out) h1 S1.out).mono ?_
  rintro e W17 ⟨rfl, hd⟩
  have HB17 := Aside0.mk (below_step HB4.out (below_step HB16.out hd.below))
  clear hd
  have hje : decide (je = je) = true := decide_eq_true rfl
  go_wp2
  go_ret
  exact ⟨by simp, HB17.out⟩
end Go.Proofs.YtkmffeicgpocgaaDoor.P
