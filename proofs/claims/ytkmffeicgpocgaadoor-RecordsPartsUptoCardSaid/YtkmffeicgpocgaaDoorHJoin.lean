/-
  records.Join: what two logs are joined to, by the plain function 'joinR'; its results are in memory of the call's own, their spare places told.
-/
import Derived.Test.YtkmffeicgpocgaaDoorHWait
import Derived.Test.YtkmffeicgpocgaaDoorPx4
import Derived.Outline
import Derived.Deep.RegionHeld3
namespace Go.Proofs.YtkmffeicgpocgaaDoor.P
open Go.RowKit Go.Proofs.YtkmffeicgpocgaaDoorW.PrintWords Go.Proofs.YtkmffeicgpocgaaDoorW.PrintLast Go.Proofs.YtkmffeicgpocgaaDoorW.PrintMore
def hd (l : List S48) : S48 := rd_T48 l 0
def ownR (x : S48) (n : Nat) : S48 := ⟨(n : Int), x.f1, x.f2, x.f3, x.f4⟩
def jn : Nat → List S48 → List S48 → List S48 → List Int → List Int → Option (List S48 × List Int × List Int)
  | 0, _, _, out, tA, tB => some (out, tA, tB)
  | n + 1, a, b, out, tA, tB =>
    if a ≠ [] ∧ b.any (lowP (hd a).f3 (hd a).f4) = false then jn n (a.drop 1) b (out ++ [ownR (hd a) out.length]) (tA ++ [(out.length : Int)]) tB
    else if b ≠ [] ∧ a.any (lowP (hd b).f3 (hd b).f4) = false then jn n a (b.drop 1) (out ++ [ownR (hd b) out.length]) tA (tB ++ [(out.length : Int)])
    else none
theorem hd_cons {l : List S48} (h : l ≠ []) : ∃ x r, l = x :: r ∧ hd l = x := by
  cases l with
  | nil => exact absurd rfl h
  | cons x r => exact ⟨x, r, rfl, rfl⟩
theorem u64_nat (n : Nat) (h : n ≤ 1000000) : IntKind.u64.wrap (n : Int) = (n : Int) := by
  rw [IntKind.wrap_u64]
  omega
/-- What stands in memory at a round's head. -/
structure JSt (w wr : World) (gx gy : Nat) (la lb out : List S48) (tA tB : List Int) (Aa Ab At Bt : Option Addr) (ca cb ct dt : Nat) (u : Value) : Prop where
  la_le : la.length ≤ ca
  lb_le : lb.length ≤ cb
  ra : Kd.C k48 w Aa la.length la
  rb : Kd.C k48 w Ab lb.length lb
  va : ∀ x ∈ la, x.f2.length ≤ 256
  vb : ∀ x ∈ lb, x.f2.length ≤ 256
  hx : wr.heap[gx]? = some (.cells #[.slice Aa la.length ca, .slice At tA.length ct] 59 (0, 0))
  hy : wr.heap[gy]? = some (.cells #[.slice Ab lb.length cb, .slice Bt tB.length dt] 59 (0, 0))
  ne : gx ≠ gy
  gex : w.heap.size ≤ gx
  gey : w.heap.size ≤ gy
  o : Kz.S #[(.int .u64 0), (.string ⟨#[]⟩), (.slice none 0 0), (.int .u64 0), (.int .u64 0)] k48 48 wr w.heap.size (fun _ => True) u out
  oa : Kd.R (Kd.int .u64) 37 wr w.heap.size (fun k => some k ≠ (Value.slice Bt tB.length dt).ownBlock) (.slice At tA.length ct) tA
  ob : Kd.R (Kd.int .u64) 37 wr w.heap.size (fun k => some k ≠ (Value.slice At tA.length ct).ownBlock) (.slice Bt tB.length dt) tB
  b : Below w.heap.size w wr
section
variable {w wr w1 : World} {gx gy : Nat} {la lb out : List S48} {tA tB : List Int} {Aa Ab At Bt : Option Addr} {ca cb ct dt : Nat} {u : Value}
theorem JSt.move (h : JSt w wr gx gy la lb out tA tB Aa Ab At Bt ca cb ct dt u) (hb : Below wr.heap.size wr w1) : JSt w w1 gx gy la lb out tA tB Aa Ab At Bt ca cb ct dt u :=
  { h with hx := (hb.block gx (blk_lt h.hx)).trans h.hx, hy := (hb.block gy (blk_lt h.hy)).trans h.hy, o := Kz.S_below h.o hb, oa := Kd.R_below h.oa hb, ob := Kd.R_below h.ob hb, b := below_step h.b hb }
theorem JSt.out_ (h : JSt w wr gx gy la lb out tA tB Aa Ab At Bt ca cb ct dt u) {out2 : List S48} {u2 : Value} (hg : wr.grownBy w1 u.ownBlock) (ho : Kz.S #[(.int .u64 0), (.string ⟨#[]⟩), (.slice none 0 0), (.int .u64 0), (.int .u64 0)] k48 48 w1 w.heap.size (fun _ => True) u2 out2) (hb : Below w.heap.size w w1) :
    JSt w w1 gx gy la lb out2 tA tB Aa Ab At Bt ca cb ct dt u2 :=
  { h with
    hx := (hg.block gx (blk_lt h.hx) (Kz.S_ne h.o h.hx (by decide))).trans h.hx
    hy := (hg.block gy (blk_lt h.hy) (Kz.S_ne h.o h.hy (by decide))).trans h.hy
    o := ho
    oa := Kd.R_over' h.oa (Kz.S_typed h.o) (by decide) hg
    ob := Kd.R_over' h.ob (Kz.S_typed h.o) (by decide) hg
    b := hb }
theorem JSt.toA (h : JSt w wr gx gy la lb out tA tB Aa Ab At Bt ca cb ct dt u) {x : Int} {At2 : Option Addr} {ct2 : Nat} (hg : wr.grownBy w1 (Value.slice At tA.length ct).ownBlock)
    (ho : Kd.R (Kd.int .u64) 37 w1 w.heap.size (fun k => some k ≠ (Value.slice Bt tB.length dt).ownBlock) (.slice At2 (tA ++ [x]).length ct2) (tA ++ [x]))
    (hat : (Value.slice At2 (tA ++ [x]).length ct2).ownBlock = (Value.slice At tA.length ct).ownBlock ∨ ∃ b, (Value.slice At2 (tA ++ [x]).length ct2).ownBlock = some b ∧ wr.heap.size ≤ b) (hb : Below w.heap.size w w1) :
    JSt w (w1.setCell ⟨gx, 1, none⟩ (.slice At2 (tA ++ [x]).length ct2)) gx gy la lb out (tA ++ [x]) tB Aa Ab At2 Bt ca cb ct2 dt u := by
  have hx1 : w1.heap[gx]? = some (.cells #[.slice Aa la.length ca, .slice At tA.length ct] 59 (0, 0)) := (hg.block gx (blk_lt h.hx) (Kd.R_ne h.oa h.hx (by decide))).trans h.hx
  have hy1 : w1.heap[gy]? = some (.cells #[.slice Ab lb.length cb, .slice Bt tB.length dt] 59 (0, 0)) := (hg.block gy (blk_lt h.hy) (Kd.R_ne h.oa h.hy (by decide))).trans h.hy
  have ho1 := Kz.S_over' h.o (Kd.R_typed h.oa) (by decide) hg
  have hb1 : Kd.R (Kd.int .u64) 37 w1 w.heap.size (fun k => some k ≠ (Value.slice At2 (tA ++ [x]).length ct2).ownBlock) (.slice Bt tB.length dt) tB := by
    refine Kd.R_mono (Kd.R_step (Kd.R_bound h.ob) (fun k hk hlt => hg.block k hlt hk.1)) (fun k hk => ?_)
    rcases hat with hat | ⟨b, hb', hle⟩
    · rw [hat]; exact hk.1
    · rw [hb']
      intro he
      injection he with he
      have := hk.2.2.1
      omega
  exact { h with
    hx := blk_put hx1 1 _ rfl
    hy := blk_far (p := ⟨gx, 1, none⟩) hy1 (Ne.symm h.ne) _
    o := Kz.S_set ho1 hx1 (by decide) 1 _
    oa := Kd.R_set ho hx1 (by decide) 1 _
    ob := Kd.R_set hb1 hx1 (by decide) 1 _
    b := hb.setCell h.gex _ }
theorem JSt.dropA (h : JSt w wr gx gy la lb out tA tB Aa Ab At Bt ca cb ct dt u) (hl : 1 ≤ la.length) {A2 : Option Addr} {n2 c2 : Nat} (hn : n2 = la.length - 1) (hc : c2 = ca - 1) (hA : (if ca = 1 then Aa else Aa.map (·.add 5)) = A2) :
    JSt w (wr.setCell ⟨gx, 0, none⟩ (.slice A2 n2 c2)) gx gy (la.drop 1) lb out tA tB A2 Ab At Bt c2 cb ct dt u := by
  subst hn hc hA
  exact { h with
    la_le := by rw [List.length_drop]; have := h.la_le; omega
    ra := by have := Kd.C_drop (k := k48) (m := 1) h.ra hl h.la_le; rw [show 1 * Kd.sz k48 = 5 from rfl] at this; exact this
    va := fun x hx => h.va x (List.mem_of_mem_drop hx)
    hx := by rw [List.length_drop]; exact blk_put h.hx 0 _ rfl
    hy := blk_far (p := ⟨gx, 0, none⟩) h.hy (Ne.symm h.ne) _
    o := Kz.S_set h.o h.hx (by decide) 0 _
    oa := Kd.R_set h.oa h.hx (by decide) 0 _
    ob := Kd.R_set h.ob h.hx (by decide) 0 _
    b := h.b.setCell h.gex _ }
/-- The same state with the two sides exchanged. -/
theorem JSt.flip (h : JSt w wr gx gy la lb out tA tB Aa Ab At Bt ca cb ct dt u) : JSt w wr gy gx lb la out tB tA Ab Aa Bt At cb ca dt ct u :=
  { la_le := h.lb_le, lb_le := h.la_le, ra := h.rb, rb := h.ra, va := h.vb, vb := h.va, hx := h.hy, hy := h.hx, ne := Ne.symm h.ne, gex := h.gey, gey := h.gex, o := h.o, oa := h.ob, ob := h.oa, b := h.b }
end
theorem box_new (w : World) (o : Obj) (k : Nat) (hk : k = w.heap.size) : (w.alloc o).heap[k]? = some o := by rw [hk]; exact heap_alloc_new w o
theorem box_drew {w : World} {k : Nat} {c : Obj} (h : w.heap[k]? = some c) : w.drew.heap[k]? = some c := h
theorem box_old {w : World} {o : Obj} {k : Nat} {c : Obj} (h : w.heap[k]? = some c) : (w.alloc o).heap[k]? = some c := ((below_alloc (Below.refl _ _) _).block _ (blk_lt h)).trans h
/-- Behind the first of the two last appends. -/
structure JE1 (w wz W w6 : World) (gx gy : Nat) (out : List S48) (tA tB : List Int) (At Bt : Option Addr) (ct dt : Nat) (u v6 : Value) : Prop where
  a : Kd.R (Kd.int .u64) 37 w6 w.heap.size (fun k => some k ≠ (Value.slice Bt tB.length dt).ownBlock) v6 (tA ++ [(out.length : Int)])
  o : Kz.S #[(.int .u64 0), (.string ⟨#[]⟩), (.slice none 0 0), (.int .u64 0), (.int .u64 0)] k48 48 w6 w.heap.size (fun _ => True) u out
  ob : Kd.R (Kd.int .u64) 37 w6 w.heap.size (fun _ => True) (.slice Bt tB.length dt) tB
  b : Below w.heap.size w w6
  ck : w6.cell? ⟨gx, 1, none⟩ = some (.slice At tA.length ct) ∧ w6.cell? ⟨gy, 1, none⟩ = some (.slice Bt tB.length dt)
  hx : ∃ c, w6.heap[gx]? = some (.cells c 59 (0, 0)) ∧ c[1]? = some (.slice At tA.length ct)
  hy : ∃ c, w6.heap[gy]? = some (.cells c 59 (0, 0)) ∧ c[1]? = some (.slice Bt tB.length dt)
  z : ∀ k c, wz.heap.size ≤ k → W.heap[k]? = some c → w6.heap[k]? = some c
  sz : wz.heap.size ≤ w6.heap.size
/-- Behind both. -/
structure JE2 (w w7 : World) (gx gy : Nat) (out : List S48) (tA tB : List Int) (At Bt : Option Addr) (ct dt : Nat) (u v6 v7 : Value) : Prop where
  a : Kd.R (Kd.int .u64) 37 w7 w.heap.size (fun _ => True) v6 (tA ++ [(out.length : Int)])
  o : Kz.S #[(.int .u64 0), (.string ⟨#[]⟩), (.slice none 0 0), (.int .u64 0), (.int .u64 0)] k48 48 w7 w.heap.size (fun _ => True) u out
  ob : Kd.R (Kd.int .u64) 37 w7 w.heap.size (fun _ => True) v7 (tB ++ [(out.length : Int)])
  b : Below w.heap.size w w7
  ck : w7.cell? ⟨gx, 1, none⟩ = some (.slice At tA.length ct) ∧ w7.cell? ⟨gy, 1, none⟩ = some (.slice Bt tB.length dt)
section
variable {w wz W w6 : World} {gx gy : Nat} {la lb out : List S48} {tA tB : List Int} {Aa Ab At Bt : Option Addr} {ca cb ct dt : Nat} {u v6 : Value}
variable {ops : Array Oper} {o : Oper} {a : Act} {Q : Exit → Act → World → Prop} {Kc : Act → World → Prop} {E : Prop}
theorem JSt.step1 (h : JSt w wz gx gy la lb out tA tB Aa Ab At Bt ca cb ct dt u) (ht : tA.length ≤ 4096) (hW : Below wz.heap.size wz W) (hgd : o.guard = none) (s x : Operand)
    (ho : o.op = .call { callee := .builtin .append, args := #[s, x], argTypes := #[27, 27] }) {g : Nat} (hs : a.eval s = .slice At tA.length ct) (hx : a.eval x = .slice (some ⟨g, 0, none⟩) 1 1) (hbx : W.heap[g]? = some (.cells #[.int .u64 (out.length : Int)] 37 (0, 0)))
    (k : ∀ v6 w6, Aside0 (JE1 w wz W w6 gx gy out tA tB At Bt ct dt u v6) → Kc (a.put o.dst v6) w6) : if Region.wanted o (yielded ops a.tmps) = true then Oper.wp Tryd.prog o a W Kc Q else E := by
  have hfr : ∀ j, W.heap.size ≤ j → some j ≠ (Value.slice Bt tB.length dt).ownBlock := fun j hj e => by
    have h1 := Kd.R_lt h.ob j e.symm
    have := hW.size
    omega
  have hW' := hW.size
  have hbs := h.b.size
  refine Kz.R_append_at .u64 (w0 := w) w.heap.size hgd s x 27 37 (.int .u64 0) 8 ho Tryd.underlying27 info37 rfl (by decide) (.slice At tA.length ct) tA (out.length : Int) g _ hs hx hbx hfr (Kd.R_below h.oa hW) (below_step h.b hW) (by omega) (by omega) ?_
  intro v6 w6 ho hb hg hat
  refine k v6 w6 ⟨{ a := ho, o := Kz.S_over' (Kz.S_below h.o hW) (Kd.R_typed (Kd.R_below h.oa hW)) (by decide) hg, ob := Kd.R_mono (Kd.R_step (Kd.R_bound (Kd.R_below h.ob hW)) (fun k hk hlt => hg.block k hlt hk.1)) (fun _ _ => trivial), b := hb, ck := ⟨?_, ?_⟩, hx := ⟨_, (hg.block gx (Nat.lt_of_lt_of_le (blk_lt h.hx) hW') (Kd.R_ne h.oa h.hx (by decide))).trans ((hW.block gx (blk_lt h.hx)).trans h.hx), rfl⟩, hy := ⟨_, (hg.block gy (Nat.lt_of_lt_of_le (blk_lt h.hy) hW') (Kd.R_ne h.oa h.hy (by decide))).trans ((hW.block gy (blk_lt h.hy)).trans h.hy), rfl⟩, z := fun k c hk hc => (hg.block k (blk_lt hc) (fun e => by have := Kd.R_lt h.oa k e.symm; omega)).trans hc, sz := ?_ }⟩
  · exact (blk_cell ((hg.block gx (Nat.lt_of_lt_of_le (blk_lt h.hx) hW') (Kd.R_ne h.oa h.hx (by decide))).trans ((hW.block gx (blk_lt h.hx)).trans h.hx)) 1).trans rfl
  · exact (blk_cell ((hg.block gy (Nat.lt_of_lt_of_le (blk_lt h.hy) hW') (Kd.R_ne h.oa h.hy (by decide))).trans ((hW.block gy (blk_lt h.hy)).trans h.hy)) 1).trans rfl
  · have := hg.size
    omega
theorem JE1.step2 (h : JE1 w wz W w6 gx gy out tA tB At Bt ct dt u v6) {W2 : World} (ht : tB.length ≤ 4096) (hW : Below w6.heap.size w6 W2) (hgd : o.guard = none) (s x : Operand)
    (ho : o.op = .call { callee := .builtin .append, args := #[s, x], argTypes := #[27, 27] }) {g : Nat} (hs : a.eval s = .slice Bt tB.length dt) (hx : a.eval x = .slice (some ⟨g, 0, none⟩) 1 1) (hbx : W2.heap[g]? = some (.cells #[.int .u64 (out.length : Int)] 37 (0, 0)))
    (k : ∀ v7 w7, Aside0 (JE2 w w7 gx gy out tA tB At Bt ct dt u v6 v7) → Kc (a.put o.dst v7) w7) : if Region.wanted o (yielded ops a.tmps) = true then Oper.wp Tryd.prog o a W2 Kc Q else E := by
  have hW' := hW.size
  have hbs := h.b.size
  refine Kz.R_append_at .u64 (w0 := w) w.heap.size hgd s x 27 37 (.int .u64 0) 8 ho Tryd.underlying27 info37 rfl (by decide) (.slice Bt tB.length dt) tB (out.length : Int) g (fun _ => True) hs hx hbx (fun _ _ => trivial) (Kd.R_below h.ob hW) (below_step h.b hW) (by omega) (by omega) ?_
  intro v7 w7 ho hb hg hat
  obtain ⟨cx, hx1, hx2⟩ := h.hx
  obtain ⟨cy, hy1, hy2⟩ := h.hy
  have gx1 := (hg.block gx (Nat.lt_of_lt_of_le (blk_lt hx1) hW') (Kd.R_ne h.ob hx1 (by decide))).trans ((hW.block gx (blk_lt hx1)).trans hx1)
  have gy1 := (hg.block gy (Nat.lt_of_lt_of_le (blk_lt hy1) hW') (Kd.R_ne h.ob hy1 (by decide))).trans ((hW.block gy (blk_lt hy1)).trans hy1)
  exact k v7 w7 ⟨{ ck := ⟨(blk_cell gx1 1).trans hx2, (blk_cell gy1 1).trans hy2⟩, a := Kd.R_mono (Kd.R_step (Kd.R_bound (Kd.R_below h.a hW)) (fun k hk hlt => hg.block k hlt hk.1)) (fun _ _ => trivial), o := Kz.S_over' (Kz.S_below h.o hW) (Kd.R_typed (Kd.R_below h.ob hW)) (by decide) hg, ob := ho, b := hb }⟩
end
set_option maxHeartbeats 4000000 in
set_option maxRecDepth 100000 in
theorem join_loop (R0 : Option (List S48 × List Int × List Int)) (A1 A2 : Option Addr) (c1 c2 : Nat) (l1 l2 : List S48) (w : World) (hC1 : Kd.C k48 w A1 l1.length l1) (hC2 : Kd.C k48 w A2 l2.length l2) (h1 : l1.length ≤ c1) (h2 : l2.length ≤ c2)
    (hL1 : ∃ k, records_Log.f k l1 = some true) (hL2 : ∃ k, records_Log.f k l2 = some true) (v1 : ∀ x ∈ l1, x.f2.length ≤ 256) (v2 : ∀ x ∈ l2, x.f2.length ≤ 256) (hsum : l1.length + l2.length ≤ 4096)
    (hR : jn (l1.length + l2.length) l1 l2 [] [] [] = R0) :
    Calls Tryd.prog 12 #[.slice A1 l1.length c1, .slice A2 l2.length c2] w fun e w' => ∃ v0 v1 v2 : Value, ∃ (r1 : List S48) (r2 r3 : List Int) (r4 : Int), e = .returned (.tuple #[v0, v1, v2, .int .i64 r4]) ∧
      (R0 = none ∧ r1 = [] ∧ r2 = [] ∧ r3 = [] ∧ r4 = 145 ∨ R0 = some (r1, r2.dropLast, r3.dropLast) ∧ r2 = r2.dropLast ++ [(r1.length : Int)] ∧ r3 = r3.dropLast ++ [(r1.length : Int)] ∧ r4 = 0) ∧
      Kz.S #[(.int .u64 0), (.string ⟨#[]⟩), (.slice none 0 0), (.int .u64 0), (.int .u64 0)] k48 48 w' w.heap.size (fun _ => True) v0 r1 ∧ Kd.R (Kd.int .u64) 37 w' w.heap.size (fun _ => True) v1 r2 ∧ Kd.R (Kd.int .u64) 37 w' w.heap.size (fun _ => True) v2 r3 ∧ Below w.heap.size w w' := by
  obtain ⟨k1, hk1⟩ := hL1
  obtain ⟨k2, hk2⟩ := hL2
  have K1 := fun W hb => records_Log.calls k1 A1 c1 l1 true W (Kd.C_below hC1 hb) h1 hk1
  have K2 := fun W hb => records_Log.calls k2 A2 c2 l2 true W (Kd.C_below hC2 hb) h2 hk2
  have HC1 := Aside0.mk hC1
  have HC2 := Aside0.mk hC2
  have HR := Aside0.mk hR
  have V1 := Aside0.mk v1
  have V2 := Aside0.mk v2
  have HK1 := Aside0.mk K1
  have HK2 := Aside0.mk K2
  have s1 : decide ((4096 : Int) < (l1.length : Int) + (l2.length : Int)) = false := decide_eq_false (by omega)
  have s2 : decide (4096 < l1.length + l2.length) = false := decide_eq_false (by omega)
  clear hC1 hC2 hR hk1 hk2 K1 K2 v1 v2
  go_enter Tryd.func12, Tryd.ntmps12
  go_wp2_with fail
  refine (HK1.out _ (Below.refl _ _)).mono ?_
  rintro e w1 ⟨rfl, hb1⟩
  have HB1 := Aside0.mk hb1
  clear hb1
  go_wp2_with fail
  refine (HK2.out _ HB1.out).mono ?_
  rintro e w2 ⟨rfl, hb2⟩
  have HB2 := Aside0.mk (below_step HB1.out hb2)
  clear hb2 HB1 HK1 HK2
  go_wp2
  obtain ⟨gx, hgx⟩ : ∃ g, g = w2.heap.size := ⟨_, rfl⟩
  obtain ⟨gy, hgy⟩ : ∃ g, g = w2.heap.size + 1 := ⟨_, rfl⟩
  have hst : JSt w ((w2.alloc (Obj.cells #[Value.slice A1 l1.length c1, Value.slice none 0 0] 59)).alloc (Obj.cells #[Value.slice A2 l2.length c2, Value.slice none 0 0] 59)) gx gy l1 l2 [] [] [] A1 A2 none none c1 c2 0 0 (.slice none 0 0) := by
    have hsz := HB2.out.size
    have ha : Below w2.heap.size w2 (w2.alloc (Obj.cells #[Value.slice A1 l1.length c1, Value.slice none 0 0] 59)) := below_alloc (Below.refl _ _) _
    have hb : Below (w2.alloc (Obj.cells #[Value.slice A1 l1.length c1, Value.slice none 0 0] 59)).heap.size (w2.alloc (Obj.cells #[Value.slice A1 l1.length c1, Value.slice none 0 0] 59)) ((w2.alloc (Obj.cells #[Value.slice A1 l1.length c1, Value.slice none 0 0] 59)).alloc (Obj.cells #[Value.slice A2 l2.length c2, Value.slice none 0 0] 59)) := below_alloc (Below.refl _ _) _
    subst hgx hgy
    exact { la_le := h1, lb_le := h2, ra := HC1.out, rb := HC2.out, va := V1.out, vb := V2.out, hx := (hb.block _ (by simp)).trans (heap_alloc_new w2 _), hy := by simpa using heap_alloc_new (w2.alloc (Obj.cells #[Value.slice A1 l1.length c1, Value.slice none 0 0] 59)) (Obj.cells #[Value.slice A2 l2.length c2, Value.slice none 0 0] 59)
            ne := by omega, gex := hsz, gey := by omega, o := Kz.S_nil _ _ _ _ _ _, oa := Kd.R_nil _ _ _ _ _, ob := Kd.R_nil _ _ _ _ _
            b := below_step (below_step HB2.out ha) hb }
  rw [← hgy, ← hgx]
  have HST := Aside0.mk hst
  clear hst HC1 HC2 V1 V2 hgx hgy HB2 s1 s2
  generalize (w2.alloc (Obj.cells #[Value.slice A1 l1.length c1, Value.slice none 0 0] 59)).alloc (Obj.cells #[Value.slice A2 l2.length c2, Value.slice none 0 0] 59) = w3 at HST ⊢
  go_loopg [10] (l1.length + l2.length) (fun n v10 wr => ∃ (la lb out : List S48) (tA tB : List Int) (Aa Ab At Bt : Option Addr) (ca cb ct dt : Nat), Aside0 (n = la.length + lb.length) ∧ Aside0 (jn n la lb out tA tB = R0) ∧ Aside0 (out.length + n ≤ 4096 ∧ tA.length ≤ out.length ∧ tB.length ≤ out.length) ∧ JSt w wr gx gy la lb out tA tB Aa Ab At Bt ca cb ct dt v10)
  case atStart => exact ⟨l1, l2, [], [], [], A1, A2, none, none, c1, c2, 0, 0, ⟨rfl⟩, HR, ⟨by simp; omega⟩, HST.out⟩
  case round =>
    clear HST HR
    obtain ⟨la, lb, out, tA, tB, Aa, Ab, At, Bt, ca, cb, ct, dt, HN, HR, HS, HJ⟩ := hrel
    obtain ⟨Ao, co, eo⟩ := Kz.S_slice HJ.o
    subst eo
    have xc : wr.cell? ⟨gx, 0, none⟩ = some (.slice Aa la.length ca) := (blk_cell HJ.hx 0).trans rfl
    have yc : wr.cell? ⟨gy, 0, none⟩ = some (.slice Ab lb.length cb) := (blk_cell HJ.hy 0).trans rfl
    have bsum := HS.out.1
    have bta := HS.out.2.1
    have btb := HS.out.2.2
    cases gk with
    | zero =>
      have ha : la = [] := List.eq_nil_of_length_eq_zero (by have := HN.out; omega)
      have hb : lb = [] := List.eq_nil_of_length_eq_zero (by have := HN.out; omega)
      subst ha hb
      go_wp2
      go_quiet (fail)
      have HJ0 := Aside0.mk (HJ.move (pw_below_drewN (Below.refl _ _) nq))
      have hwrap := u64_nat out.length (by omega)
      clear HJ xc yc
      generalize wr.drewN nq = wz at HJ0 ⊢
      have cx : wz.cell? ⟨gx, 1, none⟩ = some (.slice At tA.length ct) := (blk_cell HJ0.out.hx 1).trans rfl
      have cy : wz.cell? ⟨gy, 1, none⟩ = some (.slice Bt tB.length dt) := (blk_cell HJ0.out.hy 1).trans rfl
      have n1 := World.new_ne wz _ cx
      have n2 := World.new_ne wz _ cy
      go_wp2
      go_region_held3 (fun w' => w'.cell? ⟨gx, 1, none⟩ = some (.slice At tA.length ct) ∧ w'.cell? ⟨gy, 1, none⟩ = some (.slice Bt tB.length dt)) (first | go_keep | (exact HE7.out.ck) | (exact HE6.out.ck) | (exact ⟨((below_alloc (Below.refl _ _) _).cell (World.block_lt_of_cell? _ _ HE6.out.ck.1)).trans HE6.out.ck.1, ((below_alloc (Below.refl _ _) _).cell (World.block_lt_of_cell? _ _ HE6.out.ck.2)).trans HE6.out.ck.2⟩) | trivial)
        (first
        | (refine JSt.step1 HJ0.out (by omega) (by first | ((repeat first | exact Below.refl _ _ | refine below_drew ?_ | refine below_alloc ?_ _); done) | fail) rfl (.tmp 110) (.tmp 112) rfl (by rfl) (by rfl) (by first | ((repeat first | exact box_new _ _ _ (by first | (simp; done) | fail) | refine box_drew ?_ | refine box_old ?_); done) | fail) ?_; intro v6 w6 HE6)
        | (refine JE1.step2 HE6.out (by omega) (by first | ((repeat first | exact Below.refl _ _ | refine below_drew ?_ | refine below_alloc ?_ _); done) | fail) rfl (.tmp 117) (.tmp 119) rfl (by rfl) (by rfl) (by first | ((repeat first | exact box_new _ _ _ (by first | (simp; done) | fail) | refine HE6.out.z _ _ (by first | (simp; done) | fail) ?_ | refine box_drew ?_ | refine box_old ?_); done) | fail) ?_; intro v7 w7 HE7))
      all_goals go_wp2
      all_goals refine bodyPost_ret (results_list (rs := [.tmp 4, .tmp 5, .tmp 6, .tmp 7]) rfl (by simp) (.tmp (.tmp (.tmp (.tmp .nil))))) rfl ?_
      all_goals exact ⟨_, _, _, out, tA ++ [(out.length : Int)], tB ++ [(out.length : Int)], 0, rfl, .inr ⟨by rw [List.dropLast_concat, List.dropLast_concat]; exact HR.out.symm, by rw [List.dropLast_concat], by rw [List.dropLast_concat], rfl⟩, HE7.out.o, HE7.out.a, HE7.out.ob, HE7.out.b⟩
    | succ m =>
      have hsm : la.length + lb.length ≤ 4096 := by have := HN.out; omega
      have hpos : (0 : Int) < (la.length : Int) + (lb.length : Int) := by have := HN.out; omega
      have hpos1 : decide ((0 : Int) < (la.length : Int) + (lb.length : Int)) = true := decide_eq_true hpos
      have hpos2 : 0 < la.length + lb.length := by have := HN.out; omega
      by_cases ha : la = []
      · have hlb : 0 < lb.length := by have : la.length = 0 := by rw [ha]; rfl
                                       omega
        have hbn : lb ≠ [] := fun h => by rw [h] at hlb; cases hlb
        have HA := Aside0.mk hbn
        have HWX : Aside0 (la.any (lowP (hd lb).f3 (hd lb).f4) = false) := ⟨by rw [ha]; rfl⟩
        have HNX : Aside0 (¬ (la ≠ [] ∧ lb.any (lowP (hd la).f3 (hd la).f4) = false)) := ⟨fun h => h.1 ha⟩
        have hl0 : decide ((la.length : Int) = 0) = true := decide_eq_true (by rw [ha]; rfl)
        have hl1 : ((la.length : Int) == 0) = true := beq_iff_eq.mpr (by rw [ha]; rfl)
        have hl2 : decide ((lb.length : Int) = 0) = false := decide_eq_false (by omega)
        have hl3 : ((lb.length : Int) == 0) = false := beq_eq_false_iff_ne.mpr (by omega)
        have hl4 : ¬ lb.length = 0 := by omega
        have hl5 : la.length = 0 := by rw [ha]; rfl
        have HL5 := Aside0.mk hl5
        clear ha hbn hl5
        go_wp2
        go_quiet (fail)
        go_wp2_with fail
        refine (wait_calls gy gx Ab Aa cb ca lb la _ _ (wr.drewN nq) HJ.hy HJ.hx (Kd.C_drewN (Kd.C_below HJ.rb HJ.b) nq) (Kd.C_drewN (Kd.C_below HJ.ra HJ.b) nq) hlb).mono ?_
        rintro e w5 ⟨he, hb5⟩
        rw [show (la.any (lowP (rd_T48 lb 0).f3 (rd_T48 lb 0).f4)) = false from HWX.out] at he
        subst he
        have HJ5 := ((HJ.move (pw_below_drewN (Below.refl _ _) nq)).move hb5).flip
        clear hb5 xc yc HJ

        obtain ⟨ad, A9, c9, e9, hx0, hx1, hx2, hx3, hx4, hl9, hi9⟩ := at_T48 HJ5.ra 0 (by omega) (by omega)
        subst e9
        simp only [Int.toNat_zero, Nat.zero_mul, Addr.add_zero'] at hx0 hx1 hx2 hx3 hx4
        have sc : w5.cell? ⟨gy, 1, none⟩ = some (.slice Bt tB.length dt) := (blk_cell HJ5.hx 1).trans rfl
        have HJ5 := Aside0.mk HJ5
        have hwrap := u64_nat out.length (by omega)
        go_upto_region 14 with (first | ((with_reducible refine gate_builtin (b := .append) (xs := #[.tmp 75, .tmp 79]) rfl ?_); at_builtin; refine Kd.R_append (Kd.int .u64) (w0 := w) w.heap.size rfl (.tmp 75) (.tmp 79) 27 37 (.int .u64 0) 8 rfl Tryd.underlying27 info37 rfl (by decide) (by omega) (.slice Bt tB.length dt) tB (out.length : Int) [.int .u64 (out.length : Int)] (fun k => some k ≠ (Value.slice At tA.length ct).ownBlock) (fun _ => False) rfl rfl ?aP (fun _ hk => hk.elim) ?aF ?aO ?aB ?aS ?aL ?_; (case aP => exact rfl); (case aF => exact (fun k hk e => by have := Kd.R_lt HJ5.out.ob k e.symm; omega)); (case aO => exact HJ5.out.oa); (case aB => exact HJ5.out.b); (case aS => exact HJ5.out.b.size); (case aL => omega); intro v6 w6 ho hb hg hat; obtain ⟨At6, ct6, ev6⟩ := Kd.R_slice ho; subst ev6; have HJ6 := Aside0.mk (JSt.toA HJ5.out hg ho hat hb); have cg : w6.cell? ⟨gy, 1, none⟩ = some (.slice Bt tB.length dt) := (blk_cell ((hg.block gy (blk_lt HJ5.out.hx) (Kd.R_ne HJ5.out.oa HJ5.out.hx (by decide))).trans HJ5.out.hx) 1).trans rfl; have fg := blk_frozen ((hg.block gy (blk_lt HJ5.out.hx) (Kd.R_ne HJ5.out.oa HJ5.out.hx (by decide))).trans HJ5.out.hx) 1; clear ho hb hg hat))
        clear sc cg fg
        have hlen6 : (tB ++ [(out.length : Int)]).length = tB.length + 1 := by simp
        rw [hlen6] at HJ6
        clear hlen6
        generalize w6.setCell ⟨gy, 1, none⟩ (.slice At6 (tB.length + 1) ct6) = w7 at HJ6 ⊢
        clear HJ5
        replace hx0 := (HJ6.out.b.cell (World.block_lt_of_cell? w _ hx0)).trans hx0
        replace hx1 := (HJ6.out.b.cell (World.block_lt_of_cell? w _ hx1)).trans hx1
        replace hx2 := (HJ6.out.b.cell (World.block_lt_of_cell? w _ hx2)).trans hx2
        replace hx3 := (HJ6.out.b.cell (World.block_lt_of_cell? w _ hx3)).trans hx3
        replace hx4 := (HJ6.out.b.cell (World.block_lt_of_cell? w _ hx4)).trans hx4
        have sc : w7.cell? ⟨gy, 0, none⟩ = some (.slice (some ad) lb.length cb) := (blk_cell HJ6.out.hx 0).trans rfl
        have hlv : (rd_T48 lb 0).f2.length ≤ 256 := by
          obtain ⟨x_, r_, e1_, e2_⟩ := hd_cons HA.out
          have := HJ6.out.va x_ (by rw [e1_]; exact List.mem_cons_self)
          rw [← e2_] at this
          exact this
        have hown : records_own.f (rd_T48 lb 0).f0 (rd_T48 lb 0).f1 (rd_T48 lb 0).f2 (rd_T48 lb 0).f3 (rd_T48 lb 0).f4 (out.length : Int) = some ((out.length : Int), (rd_T48 lb 0).f1, (rd_T48 lb 0).f2, (rd_T48 lb 0).f3, (rd_T48 lb 0).f4) := by
          unfold records_own.f slices_Clone_byte_byte.f
          rw [if_pos (by omega), hwrap]
          rfl
        have HOWN := Aside0.mk hown
        have HI9 := Aside0.mk hi9
        have HL9 := Aside0.mk hl9
        have HLV := Aside0.mk hlv
        clear hown hi9 hl9 hlv hwrap
        go_wp2_with fail
        refine (records_own.calls _ _ _ _ _ _ _ _ _ _ _ _ _ w7 (Kd.C_below HI9.out HJ6.out.b) HL9.out HOWN.out).mono ?_
        rintro e w8 ⟨v8, rfl, hv8, hb8⟩
        have HJ8 := Aside0.mk (HJ6.out.move hb8)
        have HO8 := Aside0.mk (Kz.S_elder' HJ6.out.o (Kd.R_base hv8) hb8)
        have HV8 := Aside0.mk (Kd.R_lower hv8 HJ6.out.b.size)
        obtain ⟨A8, c8, ev8⟩ := Kd.R_slice hv8
        subst ev8
        clear hv8 hb8 sc
        have sc : w8.cell? ⟨gy, 0, none⟩ = some (.slice (some ad) lb.length cb) := (blk_cell HJ8.out.hx 0).trans rfl
        go_upto_region 15 with (first | ((with_reducible refine gate_builtin (b := .append) (xs := #[.tmp 83, .tmp 93]) rfl ?_); at_builtin; refine Kz.S_append k48 (w0 := w) w.heap.size rfl (.tmp 83) (.tmp 93) 22 48 (.agg #[(.int .u64 0), (.string ⟨#[]⟩), (.slice none 0 0), (.int .u64 0), (.int .u64 0)]) 64 rfl Tryd.underlying22 info48 rfl (by decide) (by omega) (.slice Ao out.length co) out (ownR (hd lb) out.length) [.int .u64 (out.length : Int), .string (rd_T48 lb 0).f1, .slice A8 (rd_T48 lb 0).f2.length c8, .int .u64 (rd_T48 lb 0).f3, .int .u64 (rd_T48 lb 0).f4] (fun _ => True) (fun k => some k = (Value.slice A8 (rd_T48 lb 0).f2.length c8).ownBlock) rfl rfl ?aP ?aK ?aF ?aO ?aB ?aS ?aL ?_; (case aP => exact k48_mkM _ _ _ (ownR (hd lb) out.length) (Kd.R_tight rfl HV8.out)); (case aK => exact (fun k hk => ⟨trivial, (Kd.R_apart' HV8.out (Kz.S_typed HO8.out) (by decide)).1 k hk.symm |>.2⟩)); (case aF => exact (fun _ _ => trivial)); (case aO => exact Kz.S_mono HO8.out (fun k hk => ⟨trivial, hk.2⟩)); (case aB => exact HJ8.out.b); (case aS => exact HJ8.out.b.size); (case aL => omega); intro v9 w9 ho hb hg hat; have HJ9 := Aside0.mk (JSt.out_ HJ8.out hg ho hb); clear ho hb hg hat))
        clear HO8 HV8 HJ8 sc
        have sc : w9.cell? ⟨gy, 0, none⟩ = some (.slice (some ad) lb.length cb) := (blk_cell HJ9.out.hx 0).trans rfl
        have sf := blk_frozen HJ9.out.hx 0
        have hcap : 1 ≤ cb := by have := HJ9.out.la_le; omega
        clear hx0 hx1 hx2 hx3 hx4
        by_cases hc1 : cb = 1
        · have hA2 : (if cb = 1 then some ad else (some ad).map (·.add 5)) = some ad := if_pos hc1
          go_wp2
          go_roundg m
          case measure => omega
          case rel => exact ⟨la, lb.drop 1, out ++ [ownR (hd lb) out.length], tA, tB ++ [(out.length : Int)], Aa, some ad, At, At6, ca, _, ct, ct6, ⟨by have := HN.out; rw [List.length_drop]; omega⟩, ⟨by rw [← HR.out, jn, if_neg HNX.out, if_pos ⟨HA.out, HWX.out⟩]⟩, ⟨by simp; omega⟩, (JSt.dropA HJ9.out (by omega) (by omega) (by omega) hA2).flip⟩
        · have hA2 : (if cb = 1 then some ad else (some ad).map (·.add 5)) = some (ad.add 5) := if_neg hc1
          have HA2 := Aside0.mk hA2
          clear hA2
          go_wp2
          go_roundg m
          case measure => omega
          case rel =>
            have hA2 := HA2.out
            exact ⟨la, lb.drop 1, out ++ [ownR (hd lb) out.length], tA, tB ++ [(out.length : Int)], Aa, some (ad.add 5), At, At6, ca, _, ct, ct6, ⟨by have := HN.out; rw [List.length_drop]; omega⟩, ⟨by rw [← HR.out, jn, if_neg HNX.out, if_pos ⟨HA.out, HWX.out⟩]⟩, ⟨by simp; omega⟩, (JSt.dropA HJ9.out (by omega) (by omega) (by omega) hA2).flip⟩
      · obtain ⟨xa, ra, ea, eh⟩ := hd_cons ha
        by_cases hwx : lb.any (lowP (hd la).f3 (hd la).f4) = true
        · have HX := Aside0.mk hwx
          have HNX : Aside0 (¬ (la ≠ [] ∧ lb.any (lowP (hd la).f3 (hd la).f4) = false)) := ⟨fun h => by rw [hwx] at h; cases h.2⟩
          have hbn : lb ≠ [] := fun h => by rw [h] at hwx; cases hwx
          have HA := Aside0.mk hbn
          have hlb : 0 < lb.length := List.length_pos_iff.mpr hbn
          have hla : 0 < la.length := List.length_pos_iff.mpr ha
          have hl0 : decide ((la.length : Int) = 0) = false := decide_eq_false (by omega)
          have hl1 : ((la.length : Int) == 0) = false := beq_eq_false_iff_ne.mpr (by omega)
          have hl2 : decide ((lb.length : Int) = 0) = false := decide_eq_false (by omega)
          have hl3 : ((lb.length : Int) == 0) = false := beq_eq_false_iff_ne.mpr (by omega)
          clear ha hwx ea eh hbn
          by_cases hwy : la.any (lowP (hd lb).f3 (hd lb).f4) = true
          · have HY := Aside0.mk hwy
            clear hwy
            go_wp2
            go_quiet (fail)
            go_wp2_with fail
            refine (wait_calls gx gy Aa Ab ca cb la lb _ _ (wr.drewN nq) HJ.hx HJ.hy (Kd.C_drewN (Kd.C_below HJ.ra HJ.b) nq) (Kd.C_drewN (Kd.C_below HJ.rb HJ.b) nq) hla).mono ?_
            rintro e w4 ⟨he, hb4⟩
            rw [show (lb.any (lowP (rd_T48 la 0).f3 (rd_T48 la 0).f4)) = true from HX.out] at he
            subst he
            have HJ4 := (HJ.move (pw_below_drewN (Below.refl _ _) nq)).move hb4
            clear hb4 xc yc HJ
            have yc : w4.cell? ⟨gy, 0, none⟩ = some (.slice Ab lb.length cb) := (blk_cell HJ4.hy 0).trans rfl
            go_wp2_with fail
            refine (wait_calls gy gx Ab Aa cb ca lb la _ _ w4 HJ4.hy HJ4.hx (Kd.C_below HJ4.rb HJ4.b) (Kd.C_below HJ4.ra HJ4.b) hlb).mono ?_
            rintro e w5 ⟨he, hb5⟩
            rw [show (la.any (lowP (rd_T48 lb 0).f3 (rd_T48 lb 0).f4)) = true from HY.out] at he
            subst he
            have HJ5 := Aside0.mk (HJ4.move hb5).b
            clear hb5 yc HJ4
            go_wp2
            refine bodyPost_ret (results_list (rs := [.tmp 4, .tmp 5, .tmp 6, .tmp 7]) rfl (by simp) (.tmp (.tmp (.tmp (.tmp .nil))))) rfl ?_
            exact ⟨_, _, _, [], [], [], 145, rfl, .inl ⟨by rw [← HR.out, jn, if_neg HNX.out, if_neg (fun h => by rw [HY.out] at h; cases h.2)], rfl, rfl, rfl, rfl⟩, Kz.S_nil _ _ _ _ _ _, Kd.R_nil _ _ _ _ _, Kd.R_nil _ _ _ _ _, HJ5.out⟩
          · have HWX := Aside0.mk (Bool.eq_false_iff.mpr hwy)
            clear hwy
            go_wp2
            go_quiet (fail)
            go_wp2_with fail
            refine (wait_calls gx gy Aa Ab ca cb la lb _ _ (wr.drewN nq) HJ.hx HJ.hy (Kd.C_drewN (Kd.C_below HJ.ra HJ.b) nq) (Kd.C_drewN (Kd.C_below HJ.rb HJ.b) nq) hla).mono ?_
            rintro e w4 ⟨he, hb4⟩
            rw [show (lb.any (lowP (rd_T48 la 0).f3 (rd_T48 la 0).f4)) = true from HX.out] at he
            subst he
            have HJ4 := (HJ.move (pw_below_drewN (Below.refl _ _) nq)).move hb4
            clear hb4 xc yc HJ
            have yc : w4.cell? ⟨gy, 0, none⟩ = some (.slice Ab lb.length cb) := (blk_cell HJ4.hy 0).trans rfl
            go_wp2_with fail
            refine (wait_calls gy gx Ab Aa cb ca lb la _ _ w4 HJ4.hy HJ4.hx (Kd.C_below HJ4.rb HJ4.b) (Kd.C_below HJ4.ra HJ4.b) hlb).mono ?_
            rintro e w5 ⟨he, hb5⟩
            rw [show (la.any (lowP (rd_T48 lb 0).f3 (rd_T48 lb 0).f4)) = false from HWX.out] at he
            subst he
            have HJ5 := (HJ4.move hb5).flip
            clear hb5 yc HJ4
            obtain ⟨ad, A9, c9, e9, hx0, hx1, hx2, hx3, hx4, hl9, hi9⟩ := at_T48 HJ5.ra 0 (by omega) (by omega)
            subst e9
            simp only [Int.toNat_zero, Nat.zero_mul, Addr.add_zero'] at hx0 hx1 hx2 hx3 hx4
            have sc : w5.cell? ⟨gy, 1, none⟩ = some (.slice Bt tB.length dt) := (blk_cell HJ5.hx 1).trans rfl
            have HJ5 := Aside0.mk HJ5
            have hwrap := u64_nat out.length (by omega)
            go_upto_region 14 with (first | ((with_reducible refine gate_builtin (b := .append) (xs := #[.tmp 75, .tmp 79]) rfl ?_); at_builtin; refine Kd.R_append (Kd.int .u64) (w0 := w) w.heap.size rfl (.tmp 75) (.tmp 79) 27 37 (.int .u64 0) 8 rfl Tryd.underlying27 info37 rfl (by decide) (by omega) (.slice Bt tB.length dt) tB (out.length : Int) [.int .u64 (out.length : Int)] (fun k => some k ≠ (Value.slice At tA.length ct).ownBlock) (fun _ => False) rfl rfl ?aP (fun _ hk => hk.elim) ?aF ?aO ?aB ?aS ?aL ?_; (case aP => exact rfl); (case aF => exact (fun k hk e => by have := Kd.R_lt HJ5.out.ob k e.symm; omega)); (case aO => exact HJ5.out.oa); (case aB => exact HJ5.out.b); (case aS => exact HJ5.out.b.size); (case aL => omega); intro v6 w6 ho hb hg hat; obtain ⟨At6, ct6, ev6⟩ := Kd.R_slice ho; subst ev6; have HJ6 := Aside0.mk (JSt.toA HJ5.out hg ho hat hb); have cg : w6.cell? ⟨gy, 1, none⟩ = some (.slice Bt tB.length dt) := (blk_cell ((hg.block gy (blk_lt HJ5.out.hx) (Kd.R_ne HJ5.out.oa HJ5.out.hx (by decide))).trans HJ5.out.hx) 1).trans rfl; have fg := blk_frozen ((hg.block gy (blk_lt HJ5.out.hx) (Kd.R_ne HJ5.out.oa HJ5.out.hx (by decide))).trans HJ5.out.hx) 1; clear ho hb hg hat))
            clear sc cg fg
            have hlen6 : (tB ++ [(out.length : Int)]).length = tB.length + 1 := by simp
            rw [hlen6] at HJ6
            clear hlen6
            generalize w6.setCell ⟨gy, 1, none⟩ (.slice At6 (tB.length + 1) ct6) = w7 at HJ6 ⊢
            clear HJ5
            replace hx0 := (HJ6.out.b.cell (World.block_lt_of_cell? w _ hx0)).trans hx0
            replace hx1 := (HJ6.out.b.cell (World.block_lt_of_cell? w _ hx1)).trans hx1
            replace hx2 := (HJ6.out.b.cell (World.block_lt_of_cell? w _ hx2)).trans hx2
            replace hx3 := (HJ6.out.b.cell (World.block_lt_of_cell? w _ hx3)).trans hx3
            replace hx4 := (HJ6.out.b.cell (World.block_lt_of_cell? w _ hx4)).trans hx4
            have sc : w7.cell? ⟨gy, 0, none⟩ = some (.slice (some ad) lb.length cb) := (blk_cell HJ6.out.hx 0).trans rfl
            have hlv : (rd_T48 lb 0).f2.length ≤ 256 := by
              obtain ⟨x_, r_, e1_, e2_⟩ := hd_cons HA.out
              have := HJ6.out.va x_ (by rw [e1_]; exact List.mem_cons_self)
              rw [← e2_] at this
              exact this
            have hown : records_own.f (rd_T48 lb 0).f0 (rd_T48 lb 0).f1 (rd_T48 lb 0).f2 (rd_T48 lb 0).f3 (rd_T48 lb 0).f4 (out.length : Int) = some ((out.length : Int), (rd_T48 lb 0).f1, (rd_T48 lb 0).f2, (rd_T48 lb 0).f3, (rd_T48 lb 0).f4) := by
              unfold records_own.f slices_Clone_byte_byte.f
              rw [if_pos (by omega), hwrap]
              rfl
            have HOWN := Aside0.mk hown
            have HI9 := Aside0.mk hi9
            have HL9 := Aside0.mk hl9
            have HLV := Aside0.mk hlv
            clear hown hi9 hl9 hlv hwrap
            go_wp2_with fail
            refine (records_own.calls _ _ _ _ _ _ _ _ _ _ _ _ _ w7 (Kd.C_below HI9.out HJ6.out.b) HL9.out HOWN.out).mono ?_
            rintro e w8 ⟨v8, rfl, hv8, hb8⟩
            have HJ8 := Aside0.mk (HJ6.out.move hb8)
            have HO8 := Aside0.mk (Kz.S_elder' HJ6.out.o (Kd.R_base hv8) hb8)
            have HV8 := Aside0.mk (Kd.R_lower hv8 HJ6.out.b.size)
            obtain ⟨A8, c8, ev8⟩ := Kd.R_slice hv8
            subst ev8
            clear hv8 hb8 sc
            have sc : w8.cell? ⟨gy, 0, none⟩ = some (.slice (some ad) lb.length cb) := (blk_cell HJ8.out.hx 0).trans rfl
            go_upto_region 15 with (first | ((with_reducible refine gate_builtin (b := .append) (xs := #[.tmp 83, .tmp 93]) rfl ?_); at_builtin; refine Kz.S_append k48 (w0 := w) w.heap.size rfl (.tmp 83) (.tmp 93) 22 48 (.agg #[(.int .u64 0), (.string ⟨#[]⟩), (.slice none 0 0), (.int .u64 0), (.int .u64 0)]) 64 rfl Tryd.underlying22 info48 rfl (by decide) (by omega) (.slice Ao out.length co) out (ownR (hd lb) out.length) [.int .u64 (out.length : Int), .string (rd_T48 lb 0).f1, .slice A8 (rd_T48 lb 0).f2.length c8, .int .u64 (rd_T48 lb 0).f3, .int .u64 (rd_T48 lb 0).f4] (fun _ => True) (fun k => some k = (Value.slice A8 (rd_T48 lb 0).f2.length c8).ownBlock) rfl rfl ?aP ?aK ?aF ?aO ?aB ?aS ?aL ?_; (case aP => exact k48_mkM _ _ _ (ownR (hd lb) out.length) (Kd.R_tight rfl HV8.out)); (case aK => exact (fun k hk => ⟨trivial, (Kd.R_apart' HV8.out (Kz.S_typed HO8.out) (by decide)).1 k hk.symm |>.2⟩)); (case aF => exact (fun _ _ => trivial)); (case aO => exact Kz.S_mono HO8.out (fun k hk => ⟨trivial, hk.2⟩)); (case aB => exact HJ8.out.b); (case aS => exact HJ8.out.b.size); (case aL => omega); intro v9 w9 ho hb hg hat; have HJ9 := Aside0.mk (JSt.out_ HJ8.out hg ho hb); clear ho hb hg hat))
            clear HO8 HV8 HJ8 sc
            have sc : w9.cell? ⟨gy, 0, none⟩ = some (.slice (some ad) lb.length cb) := (blk_cell HJ9.out.hx 0).trans rfl
            have sf := blk_frozen HJ9.out.hx 0
            have hcap : 1 ≤ cb := by have := HJ9.out.la_le; omega
            clear hx0 hx1 hx2 hx3 hx4
            by_cases hc1 : cb = 1
            · have hA2 : (if cb = 1 then some ad else (some ad).map (·.add 5)) = some ad := if_pos hc1
              go_wp2
              go_roundg m
              case measure => omega
              case rel => exact ⟨la, lb.drop 1, out ++ [ownR (hd lb) out.length], tA, tB ++ [(out.length : Int)], Aa, some ad, At, At6, ca, _, ct, ct6, ⟨by have := HN.out; rw [List.length_drop]; omega⟩, ⟨by rw [← HR.out, jn, if_neg HNX.out, if_pos ⟨HA.out, HWX.out⟩]⟩, ⟨by simp; omega⟩, (JSt.dropA HJ9.out (by omega) (by omega) (by omega) hA2).flip⟩
            · have hA2 : (if cb = 1 then some ad else (some ad).map (·.add 5)) = some (ad.add 5) := if_neg hc1
              have HA2 := Aside0.mk hA2
              clear hA2
              go_wp2
              go_roundg m
              case measure => omega
              case rel =>
                have hA2 := HA2.out
                exact ⟨la, lb.drop 1, out ++ [ownR (hd lb) out.length], tA, tB ++ [(out.length : Int)], Aa, some (ad.add 5), At, At6, ca, _, ct, ct6, ⟨by have := HN.out; rw [List.length_drop]; omega⟩, ⟨by rw [← HR.out, jn, if_neg HNX.out, if_pos ⟨HA.out, HWX.out⟩]⟩, ⟨by simp; omega⟩, (JSt.dropA HJ9.out (by omega) (by omega) (by omega) hA2).flip⟩
        · have HWX := Aside0.mk (Bool.eq_false_iff.mpr hwx)
          have HA := Aside0.mk ha
          have hla : 0 < la.length := List.length_pos_iff.mpr ha
          have hl0 : decide ((la.length : Int) = 0) = false := decide_eq_false (by omega)
          have hl1 : ((la.length : Int) == 0) = false := beq_eq_false_iff_ne.mpr (by omega)
          clear ha hwx ea eh
          go_wp2
          go_quiet (fail)
          go_wp2_with fail
          refine (wait_calls gx gy Aa Ab ca cb la lb _ _ (wr.drewN nq) HJ.hx HJ.hy (Kd.C_drewN (Kd.C_below HJ.ra HJ.b) nq) (Kd.C_drewN (Kd.C_below HJ.rb HJ.b) nq) hla).mono ?_
          rintro e w5 ⟨he, hb5⟩
          rw [show (lb.any (lowP (rd_T48 la 0).f3 (rd_T48 la 0).f4)) = false from HWX.out] at he
          subst he
          have HJ5 := (HJ.move (pw_below_drewN (Below.refl _ _) nq)).move hb5
          clear hb5 xc yc HJ

          obtain ⟨ad, A9, c9, e9, hx0, hx1, hx2, hx3, hx4, hl9, hi9⟩ := at_T48 HJ5.ra 0 (by omega) (by omega)
          subst e9
          simp only [Int.toNat_zero, Nat.zero_mul, Addr.add_zero'] at hx0 hx1 hx2 hx3 hx4
          have sc : w5.cell? ⟨gx, 1, none⟩ = some (.slice At tA.length ct) := (blk_cell HJ5.hx 1).trans rfl
          have HJ5 := Aside0.mk HJ5
          have hwrap := u64_nat out.length (by omega)
          go_upto_region 14 with (first | ((with_reducible refine gate_builtin (b := .append) (xs := #[.tmp 75, .tmp 79]) rfl ?_); at_builtin; refine Kd.R_append (Kd.int .u64) (w0 := w) w.heap.size rfl (.tmp 75) (.tmp 79) 27 37 (.int .u64 0) 8 rfl Tryd.underlying27 info37 rfl (by decide) (by omega) (.slice At tA.length ct) tA (out.length : Int) [.int .u64 (out.length : Int)] (fun k => some k ≠ (Value.slice Bt tB.length dt).ownBlock) (fun _ => False) rfl rfl ?aP (fun _ hk => hk.elim) ?aF ?aO ?aB ?aS ?aL ?_; (case aP => exact rfl); (case aF => exact (fun k hk e => by have := Kd.R_lt HJ5.out.ob k e.symm; omega)); (case aO => exact HJ5.out.oa); (case aB => exact HJ5.out.b); (case aS => exact HJ5.out.b.size); (case aL => omega); intro v6 w6 ho hb hg hat; obtain ⟨At6, ct6, ev6⟩ := Kd.R_slice ho; subst ev6; have HJ6 := Aside0.mk (JSt.toA HJ5.out hg ho hat hb); have cg : w6.cell? ⟨gx, 1, none⟩ = some (.slice At tA.length ct) := (blk_cell ((hg.block gx (blk_lt HJ5.out.hx) (Kd.R_ne HJ5.out.oa HJ5.out.hx (by decide))).trans HJ5.out.hx) 1).trans rfl; have fg := blk_frozen ((hg.block gx (blk_lt HJ5.out.hx) (Kd.R_ne HJ5.out.oa HJ5.out.hx (by decide))).trans HJ5.out.hx) 1; clear ho hb hg hat))
          clear sc cg fg
          have hlen6 : (tA ++ [(out.length : Int)]).length = tA.length + 1 := by simp
          rw [hlen6] at HJ6
          clear hlen6
          generalize w6.setCell ⟨gx, 1, none⟩ (.slice At6 (tA.length + 1) ct6) = w7 at HJ6 ⊢
          clear HJ5
          replace hx0 := (HJ6.out.b.cell (World.block_lt_of_cell? w _ hx0)).trans hx0
          replace hx1 := (HJ6.out.b.cell (World.block_lt_of_cell? w _ hx1)).trans hx1
          replace hx2 := (HJ6.out.b.cell (World.block_lt_of_cell? w _ hx2)).trans hx2
          replace hx3 := (HJ6.out.b.cell (World.block_lt_of_cell? w _ hx3)).trans hx3
          replace hx4 := (HJ6.out.b.cell (World.block_lt_of_cell? w _ hx4)).trans hx4
          have sc : w7.cell? ⟨gx, 0, none⟩ = some (.slice (some ad) la.length ca) := (blk_cell HJ6.out.hx 0).trans rfl
          have hlv : (rd_T48 la 0).f2.length ≤ 256 := by
            obtain ⟨x_, r_, e1_, e2_⟩ := hd_cons HA.out
            have := HJ6.out.va x_ (by rw [e1_]; exact List.mem_cons_self)
            rw [← e2_] at this
            exact this
          have hown : records_own.f (rd_T48 la 0).f0 (rd_T48 la 0).f1 (rd_T48 la 0).f2 (rd_T48 la 0).f3 (rd_T48 la 0).f4 (out.length : Int) = some ((out.length : Int), (rd_T48 la 0).f1, (rd_T48 la 0).f2, (rd_T48 la 0).f3, (rd_T48 la 0).f4) := by
            unfold records_own.f slices_Clone_byte_byte.f
            rw [if_pos (by omega), hwrap]
            rfl
          have HOWN := Aside0.mk hown
          have HI9 := Aside0.mk hi9
          have HL9 := Aside0.mk hl9
          have HLV := Aside0.mk hlv
          clear hown hi9 hl9 hlv hwrap
          go_wp2_with fail
          refine (records_own.calls _ _ _ _ _ _ _ _ _ _ _ _ _ w7 (Kd.C_below HI9.out HJ6.out.b) HL9.out HOWN.out).mono ?_
          rintro e w8 ⟨v8, rfl, hv8, hb8⟩
          have HJ8 := Aside0.mk (HJ6.out.move hb8)
          have HO8 := Aside0.mk (Kz.S_elder' HJ6.out.o (Kd.R_base hv8) hb8)
          have HV8 := Aside0.mk (Kd.R_lower hv8 HJ6.out.b.size)
          obtain ⟨A8, c8, ev8⟩ := Kd.R_slice hv8
          subst ev8
          clear hv8 hb8 sc
          have sc : w8.cell? ⟨gx, 0, none⟩ = some (.slice (some ad) la.length ca) := (blk_cell HJ8.out.hx 0).trans rfl
          go_upto_region 15 with (first | ((with_reducible refine gate_builtin (b := .append) (xs := #[.tmp 83, .tmp 93]) rfl ?_); at_builtin; refine Kz.S_append k48 (w0 := w) w.heap.size rfl (.tmp 83) (.tmp 93) 22 48 (.agg #[(.int .u64 0), (.string ⟨#[]⟩), (.slice none 0 0), (.int .u64 0), (.int .u64 0)]) 64 rfl Tryd.underlying22 info48 rfl (by decide) (by omega) (.slice Ao out.length co) out (ownR (hd la) out.length) [.int .u64 (out.length : Int), .string (rd_T48 la 0).f1, .slice A8 (rd_T48 la 0).f2.length c8, .int .u64 (rd_T48 la 0).f3, .int .u64 (rd_T48 la 0).f4] (fun _ => True) (fun k => some k = (Value.slice A8 (rd_T48 la 0).f2.length c8).ownBlock) rfl rfl ?aP ?aK ?aF ?aO ?aB ?aS ?aL ?_; (case aP => exact k48_mkM _ _ _ (ownR (hd la) out.length) (Kd.R_tight rfl HV8.out)); (case aK => exact (fun k hk => ⟨trivial, (Kd.R_apart' HV8.out (Kz.S_typed HO8.out) (by decide)).1 k hk.symm |>.2⟩)); (case aF => exact (fun _ _ => trivial)); (case aO => exact Kz.S_mono HO8.out (fun k hk => ⟨trivial, hk.2⟩)); (case aB => exact HJ8.out.b); (case aS => exact HJ8.out.b.size); (case aL => omega); intro v9 w9 ho hb hg hat; have HJ9 := Aside0.mk (JSt.out_ HJ8.out hg ho hb); clear ho hb hg hat))
          clear HO8 HV8 HJ8 sc
          have sc : w9.cell? ⟨gx, 0, none⟩ = some (.slice (some ad) la.length ca) := (blk_cell HJ9.out.hx 0).trans rfl
          have sf := blk_frozen HJ9.out.hx 0
          have hcap : 1 ≤ ca := by have := HJ9.out.la_le; omega
          clear hx0 hx1 hx2 hx3 hx4
          by_cases hc1 : ca = 1
          · have hA2 : (if ca = 1 then some ad else (some ad).map (·.add 5)) = some ad := if_pos hc1
            go_wp2
            go_roundg m
            case measure => omega
            case rel => exact ⟨la.drop 1, lb, out ++ [ownR (hd la) out.length], tA ++ [(out.length : Int)], tB, some ad, Ab, At6, Bt, _, cb, ct6, dt, ⟨by have := HN.out; rw [List.length_drop]; omega⟩, ⟨by rw [← HR.out, jn, if_pos ⟨HA.out, HWX.out⟩]⟩, ⟨by simp; omega⟩, JSt.dropA HJ9.out (by omega) (by omega) (by omega) hA2⟩
          · have hA2 : (if ca = 1 then some ad else (some ad).map (·.add 5)) = some (ad.add 5) := if_neg hc1
            have HA2 := Aside0.mk hA2
            clear hA2
            go_wp2
            go_roundg m
            case measure => omega
            case rel =>
              have hA2 := HA2.out
              exact ⟨la.drop 1, lb, out ++ [ownR (hd la) out.length], tA ++ [(out.length : Int)], tB, some (ad.add 5), Ab, At6, Bt, _, cb, ct6, dt, ⟨by have := HN.out; rw [List.length_drop]; omega⟩, ⟨by rw [← HR.out, jn, if_pos ⟨HA.out, HWX.out⟩]⟩, ⟨by simp; omega⟩, JSt.dropA HJ9.out (by omega) (by omega) (by omega) hA2⟩
end Go.Proofs.YtkmffeicgpocgaaDoor.P
