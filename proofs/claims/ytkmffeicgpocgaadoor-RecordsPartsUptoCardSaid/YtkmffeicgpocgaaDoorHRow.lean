/-
  gazettelaw14.RecordsParts: the row and its card.
-/
import Derived.Test.YtkmffeicgpocgaaDoorHLaw
import Derived.Test.YtkmffeicgpocgaaDoorHOpen
import Derived.Test.YtkmffeicgpocgaaDoorCards
import Derived.Test.YtkmffeicgpocgaaDoorTie
import Derived.WalkKit
import Derived.ProofKit
import Derived.OpenShut
import Derived.ChangeOld
import Derived.Carry
import Derived.Lay
import Derived.Deep.DeepHandedRow
namespace Go.Proofs.YtkmffeicgpocgaaDoor.recordsParts
open Go.ChangeShapes Go.WideShapes Go.ChangeAt Go.RowKit Go.Deep Go.Proofs.YtkmffeicgpocgaaDoor.P Go.Proofs.YtkmffeicgpocgaaDoorW.PrintWords Go.Proofs.YtkmffeicgpocgaaDoorW.PrintLast Go.Proofs.YtkmffeicgpocgaaDoorW.PrintMore
theorem own : ownKnob Tryd.prog.godebug = none := by kernel_rfl
theorem laidOut : laidOutB Tryd.prog = true := by kernel_rfl
theorem cells5 : Tryd.prog.cellsOf 5 = 1 := by kernel_rfl
theorem cells48 : Tryd.prog.cellsOf 48 = 5 := by kernel_rfl
theorem cells24 : Tryd.prog.cellsOf 24 = 2 := by kernel_rfl
theorem opens42 : Opens Tryd.prog 42 (Kd.slice 5 (Kd.int .u8)) (mbList fun _ => 0) := opens_slice Tryd.underlying42 cells5 (opens_int Tryd.underlying5)
set_option maxRecDepth 100000 in
theorem opens48 : Opens Tryd.prog 48 k48 (fun x => mbList (fun _ => 0) x.f2) := by
  intro H enc w base spare held fuel cs x h
  obtain ⟨xs, n, _, rfl, hl, hx, hf⟩ := DataW.trod_struct Tryd.underlying48 h
  rw [cells48] at hl
  match cs, hl with
  | [e0, e1, e2, e3, e4], _ =>
    match xs, hx with
    | [y0, y1, y2, y3, y4], _ =>
      have g0 := hf 0 _ rfl
      have g1 := hf 1 _ rfl
      have g2 := hf 2 _ rfl
      have g3 := hf 3 _ rfl
      have g4 := hf 4 _ rfl
      simp only [List.getElem?_cons_zero, List.getElem?_cons_succ] at g0 g1 g2 g3 g4
      obtain ⟨n0, q0, _, _⟩ := DataW.trod_int Tryd.underlying37 g0
      obtain ⟨n1, q1, _, _⟩ := DataW.trod_string Tryd.underlying9 g1
      obtain ⟨n2, ⟨A2, c2, q2, l2, r2⟩, b2⟩ := opens42 H enc w base spare held n _ _ g2
      obtain ⟨n3, q3, _, _⟩ := DataW.trod_int Tryd.underlying37 g3
      obtain ⟨n4, q4, _, _⟩ := DataW.trod_int Tryd.underlying37 g4
      injection q0 with q0
      injection q1 with q1
      injection q2 with q2
      injection q3 with q3
      injection q4 with q4
      subst q0 q1 q2 q3 q4
      refine ⟨⟨n0, n1, n2, n3, n4⟩, k48_mk w ⟨n0, n1, n2, n3, n4⟩ l2 r2, ?_⟩
      simp only [Rows.uptoBulk, Rows.uptoBulkAll, List.map_cons, List.map_nil]
      omega
theorem opens22 : Opens Tryd.prog 22 (Kd.slice 48 k48) (mbList fun x => mbList (fun _ => 0) x.f2) := opens_slice Tryd.underlying22 cells48 opens48
set_option maxHeartbeats 1000000 in
set_option maxRecDepth 100000 in
theorem contract (H : Type) (enc : TypeId × Value → H) (W : World) (base : Nat) (args : Array Value) (ds gs : List (DataW H)) (before : List MemPlace)
    (hval : ∀ (j : Nat) t v, Tryd.f3.params[j]? = some t → args[j]? = some v → Value.okWide Tryd.prog W .any base t v)
    (hW : DataW.Whole enc Tryd.prog Tryd.f3.params.toList Rows.recordsPartsSpec.vars false W args.toList ds gs before) (hk : Rows.uptoSmall H (ds ++ gs) = true) :
    Calls Tryd.prog 3 args W fun e W' => ∃ v, e = .returned v ∧ Rows.recordsPartsSpec.post enc Tryd.prog Tryd.f3 false true false false W args v W' := by
  have hW' := hW
  obtain ⟨p, q, hA0, hV, rfl, hfz, hnd⟩ := hW
  have hA : DataW.TrodAll enc Tryd.prog W 0 (fun _ => true) true Tryd.f3.params.toList args.toList ds p := hA0
  rw [Tryd.params3] at hA hval
  obtain ⟨v0, vs0, d0, ds0, p0, q0, hargs, rfl, rfl, h0, r0⟩ := trodAll_cons hA
  obtain ⟨v1, vs1, d1, ds1, p1, q1, rfl, rfl, rfl, h1, r1⟩ := trodAll_cons r0
  obtain ⟨v2, vs2, d2, ds2, p2, q2, rfl, rfl, rfl, h2, r2⟩ := trodAll_cons r1
  obtain ⟨rfl, rfl, rfl⟩ := trodAll_nil r2
  obtain rfl : args = #[v0, v1, v2] := by cases args; simp_all
  obtain ⟨rfl, rfl⟩ := trodVars_none hV
  have hb : Rows.uptoBulkAll [d0, d1, d2] ≤ 1048576 := by simpa [Rows.uptoSmall] using hk
  simp only [Rows.uptoBulkAll] at hb
  have lt0 : ∀ x ∈ p0, x.block < W.heap.size := by obtain ⟨m, hm⟩ := h0; exact DataW.trod_lt m _ _ _ hm
  have lt1 : ∀ x ∈ p1, x.block < W.heap.size := by obtain ⟨m, hm⟩ := h1; exact DataW.trod_lt m _ _ _ hm
  have lt2 : ∀ x ∈ p2, x.block < W.heap.size := by obtain ⟨m, hm⟩ := h2; exact DataW.trod_lt m _ _ _ hm
  have k0 := h0
  have k1 := h1
  have k2 := h2
  obtain ⟨a0, len0, cap0, rfl⟩ := okWide_slice Tryd.underlying22 (hval 0 22 v0 rfl rfl)
  obtain ⟨a1, len1, cap1, rfl⟩ := okWide_slice Tryd.underlying22 (hval 1 22 v1 rfl rfl)
  obtain ⟨cs2, rfl, hs2⟩ := okWide_struct Tryd.underlying24 (hval 2 24 v2 rfl rfl)
  obtain ⟨m0, g0⟩ := h0
  obtain ⟨m1, g1⟩ := h1
  obtain ⟨m2, g2⟩ := h2
  obtain ⟨l0, ⟨A0, c0, e0, hc0, hC0⟩, b0⟩ := opens22 H enc W 0 _ _ m0 _ _ g0
  obtain ⟨l1, ⟨A1, c1, e1, hc1, hC1⟩, b1⟩ := opens22 H enc W 0 _ _ m1 _ _ g1
  simp only [Value.cells, List.cons.injEq, Value.slice.injEq, and_true] at e0 e1
  obtain ⟨rfl, rfl, rfl⟩ := e0
  obtain ⟨rfl, rfl, rfl⟩ := e1
  obtain ⟨xs, n, _, _, hl, hx, hf⟩ := DataW.trod_struct Tryd.underlying24 g2
  have hcs : (Value.agg cs2).cells = cs2 := rfl
  rw [hcs] at hl hf
  obtain ⟨cl⟩ := cs2
  rw [cells24] at hl
  match cl, hl with
  | [w0, w1], _ =>
    match xs, hx with
    | [y0, y1], _ =>
      have f0 := hf 0 _ rfl
      have f1 := hf 1 _ rfl
      simp only [List.getElem?_cons_zero, List.getElem?_cons_succ] at f0 f1
      obtain ⟨s0, e0, _, _⟩ := DataW.trod_string Tryd.underlying9 f0
      obtain ⟨s1, e1, _, _⟩ := DataW.trod_string Tryd.underlying9 f1
      injection e0 with e0
      injection e1 with e1
      subst e0 e1
      have b0 : mbList (fun x : S48 => mbList (fun _ => 0) x.f2) l0 + 1 ≤ Rows.uptoBulk d0 := b0
      have b1 : mbList (fun x : S48 => mbList (fun _ => 0) x.f2) l1 + 1 ≤ Rows.uptoBulk d1 := b1
      have n0 := mbList_length (fun x : S48 => mbList (fun _ => 0) x.f2) l0
      have n1 := mbList_length (fun x : S48 => mbList (fun _ => 0) x.f2) l1
      refine (law_calls _ _ _ _ l0 l1 s0 s1 W hC0 hC1 hc0 hc1 (by omega) (by omega) (fun x hx => ?_) (fun x hx => ?_)).mono fun e W' ⟨he, bel⟩ => ?_
      · have h3 : mbList (fun _ : Int => 0) x.f2 < _ := mbList_mem (fun x : S48 => mbList (fun _ => 0) x.f2) hx
        have := mbList_length (fun _ : Int => 0) x.f2
        omega
      · have h3 : mbList (fun _ : Int => 0) x.f2 < _ := mbList_mem (fun x : S48 => mbList (fun _ => 0) x.f2) hx
        have := mbList_length (fun _ : Int => 0) x.f2
        omega
      · subst he
        exact ⟨_, rfl, _, _, _, [], _, [], hW', trodAll_mk1 (shut_bool Tryd.underlying4 _),
          trodAll_cons_mk (Below.trod laidOut (by kernel_rfl) (of_decide_eq_true (by kernel_rfl)) k0 bel lt0) (trodAll_cons_mk (Below.trod laidOut (by kernel_rfl) (of_decide_eq_true (by kernel_rfl)) k1 bel lt1) (trodAll_cons_mk (Below.trod laidOut (by kernel_rfl) (of_decide_eq_true (by kernel_rfl)) k2 bel lt2) trodAll_mk0)),
          rfl, bel.frame _, fun h => by cases h⟩
noncomputable def laidWorld (os : Os) : World := World.laidAll Tryd.prog os Rows.recordsPartsUptoRow.laid
def args0 : Array Value := #[.slice none 0 0, .slice none 0 0, .agg #[.string ⟨#[]⟩, .string ⟨#[]⟩]]
theorem laid_met (os : Os) : laidMet Tryd.prog Rows.recordsPartsUptoRow.laid ((laidWorld os).forCall (fun _ _ => 0) ⟨#[], args0, []⟩).memory :=
  laidMet_laidAll _ (by kernel_rfl) (by kernel_rfl)
theorem reads (os : Os) {H : Type} (enc : TypeId × Value → H) : ∃ places, DataW.whole enc Tryd.prog ((laidWorld os).forCall (fun _ _ => 0) ⟨#[], args0, []⟩).memory Tryd.f3.params.toList Rows.recordsPartsSpec.vars false args0.toList 8 = some ([.nil, .nil, .agg [.lit (.string []), .lit (.string [])]], [], places) :=
  ⟨[], by kernel_rfl⟩
set_option maxRecDepth 100000 in
theorem liftedUpto (os : Os) (started : os.Started) (H : Type) (enc : TypeId × Value → H) (F : Stop.Interp) :
    ReturnsInHanded {} Tryd.checked os 3 .any ((Rows.OpenSpec.upto Rows.recordsPartsSpec).preRow enc Tryd.prog Tryd.f3 Rows.recordsPartsUptoRow.domain false Rows.recordsPartsUptoRow.laid) (((Rows.OpenSpec.upto Rows.recordsPartsSpec).at F).post enc Tryd.prog Tryd.f3 false true false false) := by
  obtain ⟨places, hx⟩ := reads os enc
  refine returnsInHanded_of_row (C := Tryd.checked) (s := Rows.OpenSpec.upto Rows.recordsPartsSpec) own started (by kernel_rfl) Tryd.func3
    (witness_row_at (enc := enc) (C := Tryd.checked) false (laidWorld os) args0 (World.laidAll_os _ _ _) (by kernel_rfl) (by kernel_rfl) (by kernel_rfl)
      (OpenSpec.preRow_of_cond 8 hx (by kernel_rfl) (fun k hk => by cases hk; kernel_rfl) (by kernel_rfl) (laid_met os))) ?_
  intro W base args ds gs before hval hW _ hcond _ _ _ _
  exact contract H enc W base args ds gs before hval hW (hcond _ rfl)
theorem saidUpto : Rows.RecordsPartsUptoSaid :=
  OpenClaim.holds_of_cond 3 Tryd.f3 rfl rfl rfl rfl rfl rfl rfl ⟨rfl, rfl, rfl, rfl, rfl⟩ rfl rfl rfl rfl rfl (by kernel_rfl) Tryd.func3 (by kernel_rfl)
    (of_decide_eq_true (by kernel_rfl)) (by unfold Func.isWrapper; first | (rw [if_pos (by decide +kernel)]; kernel_rfl) | (rw [if_neg (by decide +kernel)]; exact ⟨rfl, rfl⟩))
    (fun os started H enc _ F => by rw [OpenClaim.pre_eq_preRow]; exact liftedUpto os started H enc F)
theorem plain (f : FuncId) (fn : Func) (hf : Tryd.pinned.checked.prog.funcNamed "gazette/gazettelaw14.RecordsParts" = some f) (hfn : Tryd.pinned.checked.prog.funcs[f]? = some fn) :
    true = Tryd.pinned.checked.prog.looks [] ∧ ∀ (j : Nat) t, fn.params[j]? = some t → Tryd.pinned.checked.prog.wantsStandIn t = false := by
  obtain rfl : f = 3 := Option.some.inj ((show Tryd.prog.funcNamed "gazette/gazettelaw14.RecordsParts" = some 3 by kernel_rfl).symm.trans hf) |>.symm
  obtain rfl : fn = Tryd.f3 := (Option.some.inj (Tryd.func3.symm.trans hfn)).symm
  refine ⟨by kernel_rfl, fun j t ht => ?_⟩
  rw [Tryd.params3] at ht
  have := Array.mem_of_getElem? ht
  simp only [List.mem_toArray, List.mem_cons, List.not_mem_nil, or_false] at this
  rcases this with rfl | rfl | rfl
  · exact (show Tryd.prog.wantsStandIn 22 = false by kernel_rfl)
  · exact (show Tryd.prog.wantsStandIn 22 = false by kernel_rfl)
  · exact (show Tryd.prog.wantsStandIn 24 = false by kernel_rfl)
theorem cardUpto : Rows.RecordsPartsUptoCardSaid :=
  Claim7.holds_tied_plain_at .later [] _ _ _ _ saidUpto (fun _ h => by cases h) (by kernel_rfl) (fun _ h => by cases h) recordsPartsUpto_row_tie rfl ⟨rfl, rfl⟩ (by kernel_rfl) rfl plain (by kernel_rfl)
end Go.Proofs.YtkmffeicgpocgaaDoor.recordsParts
