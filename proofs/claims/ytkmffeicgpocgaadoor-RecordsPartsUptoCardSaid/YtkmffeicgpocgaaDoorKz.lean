/-
  Rows of the call's own whose spare places hold the element type's zero value (what a reader of s[:cap(s)] meets).
-/
import Derived.Test.YtkmffeicgpocgaaDoorKx
import Derived.Test.YtkmffeicgpocgaaDoorWShare
namespace Go.Proofs.YtkmffeicgpocgaaDoorW.PrintWords
open Go.RowKit
/-- Behind the length, up to the capacity, the row of v holds zs again and again. -/
def Spare (zs : Array Value) (size : Nat) (w : World) (v : Value) : Prop :=
  ∀ g n cap, v = .slice (some ⟨g, 0, none⟩) n cap → ∃ cur e, w.heap[g]? = some (.cells cur e (0, 0)) ∧ cur.size = cap * size ∧ ∀ j, n * size ≤ j → j < cap * size → cur[j]? = some (zs[j % size]!)
theorem Spare.nil (zs : Array Value) (size : Nat) (w : World) : Spare zs size w (.slice none 0 0) := fun _ _ _ h => by cases h
theorem Spare.move {zs : Array Value} {size : Nat} {w w1 : World} {v : Value} (h : Spare zs size w v) (hm : ∀ k, v.ownBlock = some k → w1.heap[k]? = w.heap[k]?) : Spare zs size w1 v := by
  rintro g n cap rfl
  obtain ⟨cur, e, hh, r⟩ := h g n cap rfl
  exact ⟨cur, e, (hm g (by simp [Value.ownBlock])).trans hh, r⟩
theorem zeroCells_at (zs : Array Value) (n j : Nat) (hj : j < n * zs.size) : (Builtin.zeroCells zs n)[j]? = some (zs[j % zs.size]!) := by
  simp [Builtin.zeroCells, hj]
theorem spare_new {xs : List Value} {zs : Array Value} {n cap : Nat} (hx : xs.length = n * zs.size) (hc : n ≤ cap) (w : World) (e : TypeId) :
    Spare zs zs.size (w.alloc (.cells (xs.toArray ++ Builtin.zeroCells zs (cap - n)) e)) (.slice (some ⟨w.heap.size, 0, none⟩) n cap) := by
  intro g n' cap' he
  injection he with he1 he2 he3
  injection he1 with he1
  injection he1 with he1
  subst he1 he2 he3
  refine ⟨_, _, heap_alloc_new w _, ?_, fun j h1 h2 => ?_⟩
  · rw [Array.size_append, List.size_toArray, size_zeroCells, hx, ← Nat.add_mul]
    congr 1
    omega
  · have hsub : (cap - n) * zs.size = cap * zs.size - n * zs.size := Nat.sub_mul _ _ _
    rw [Array.getElem?_append_right (by simp [hx]; exact h1), List.size_toArray, hx, zeroCells_at _ _ _ (by rw [hsub]; omega)]
    congr 2
    obtain ⟨d, rfl⟩ := Nat.le.dest h1
    rw [Nat.add_sub_cancel_left, Nat.add_comm (n * zs.size) d, Nat.add_mul_mod_self_right]

section
variable {P : Program} (w : World)
/-- append to an owned row with zero spare places leaves such a row. -/
theorem run_append_own_spare (base : Nat) (t ty e : TypeId) (i : TypeInfo) (z : Value) (size bytes : Nat) (ht : P.underlying t = some (.slice e)) (hi : P.info? e = some i) (hz : i.zero = some z)
    (hsize : i.size = size) (hby : i.bytes = bytes) (hzs : z.cells.size = size)
    (v : Value) (n : Nat) (xs : List Value) (hown : w.ownsRow base e size v n xs) (hsp : Spare z.cells size w v)
    (a : Addr) (m c : Nat) (news : List Value) (hl : news.length = m * size) (hnews : ∀ j u, news[j]? = some u → w.cell? (a.add j) = some u) (h1 : ∀ u ∈ news, u.oneCell' = true)
    (h63 : n + m ≤ maxLen) (hbytes : (n + m) * bytes ≤ 140737488355328) (v' : Value) (w' : World)
    (hrun : (Builtin.append_ #[t, t] ty #[v, .slice (some a) m c]).run P w = .ok v' w') : Spare z.cells size w' v' := by
  subst hsize
  subst hby
  have h63' : n + m ≤ 9223372036854775807 := by simp only [maxLen] at h63; omega
  rcases hown.2 with ⟨rfl, rfl⟩ | ⟨g, cap, cur, rfl, hbg, hg, hnc, hcm, hcs, htake⟩
  · by_cases hm : m = 0
    · subst hm
      have hn : news = [] := List.eq_nil_of_length_eq_zero (by simpa using hl)
      subst hn
      have hr : (Builtin.append_ #[t, t] ty #[.slice none 0 0, .slice (some a) 0 c]).run P w = .ok (.slice none 0 0) w := by
        simp [Builtin.append_, run_underlying ht, sizeOf, typeInfo, hi, Builtin.lenOf, Builtin.firstCells, loadCells, loadCellsFrom]
      rw [hr] at hrun
      injection hrun with e1 e2
      subst e1 e2
      exact Spare.nil _ _ _
    · have hr := run_append_nil (P := P) w t ty e i z ht hi hz a m c news hl hnews (by omega) (by omega) (by have hb := hbytes; simp only [Nat.zero_add] at hb; omega)
      rw [hr] at hrun
      injection hrun with e1 e2
      subst e1 e2
      have := spare_new (xs := news) (zs := z.cells) (n := m) (cap := grownCap w m 0 e) (by rw [hzs]; exact hl) (grownCap_ge w m 0 e) w.drew e
      rw [hzs] at this
      exact this
  · by_cases hroom : n + m ≤ cap
    · have hfit : n * i.size + news.length ≤ cur.size := by rw [hl, hcs, ← Nat.add_mul]; exact Nat.mul_le_mul_right _ hroom
      have hr := run_append_room (P := P) w t ty e i ht hi g n cap cur hg a m c news hl hnews h1 hroom hfit
      rw [hr] at hrun
      injection hrun with e1 e2
      subst e1 e2
      obtain ⟨cur', e', hh, hsz, hat⟩ := hsp g n cap rfl
      rw [hg] at hh
      injection hh with hh
      injection hh with hh _
      subst hh
      intro g' n' cap' he
      injection he with he1 he2 he3
      injection he1 with he1
      injection he1 with he1
      subst he1 he2 he3
      have hlen : (cur.toList.take (n * i.size)).length = n * i.size := by rw [List.length_take, Array.length_toList]; omega
      refine ⟨_, _, setRow_heap w g cur _ e _ hg, ?_, fun j h1' h2' => ?_⟩
      · simp only [List.size_toArray, List.length_append, List.length_take, List.length_drop, Array.length_toList]
        omega
      · have hj : n * i.size + news.length ≤ j := by rw [hl, ← Nat.add_mul]; exact h1'
        rw [List.getElem?_toArray, List.getElem?_append_right (by rw [List.length_append, hlen]; omega), List.length_append, hlen, List.getElem?_drop,
          show n * i.size + news.length + (j - (n * i.size + news.length)) = j by omega]
        have := hat j (by omega) h2'
        rw [← this, Array.getElem?_toList]
    · have holds : ∀ j u, xs[j]? = some u → w.cell? ((⟨g, 0, none⟩ : Addr).add j) = some u := hown.cells (g := g) rfl
      have hr := run_append_grow (P := P) w t ty e i z ht hi hz ⟨g, 0, none⟩ n cap xs hown.1 holds a m c news hl hnews (by omega) (by omega) (growslice_fits (by omega) hbytes)
      rw [hr] at hrun
      injection hrun with e1 e2
      subst e1 e2
      have := spare_new (xs := xs ++ news) (zs := z.cells) (n := n + m) (cap := grownCap w (n + m) cap e) (by rw [List.length_append, hown.1, hl, hzs, Nat.add_mul]) (grownCap_ge w (n + m) cap e) w.drew e
      rw [hzs] at this
      simpa using this
end

namespace Kz
/-- Kd.S, the spare places told: zs. -/
def S (zs : Array Value) {α : Type} (d : Kd α) (e : Nat) (w : World) (base : Nat) (ok : Nat → Prop) (v : Value) (xs : List α) : Prop := Kd.S d e w base ok v xs ∧ Spare zs d.sz w v
section
variable {zs : Array Value} {α : Type} {d : Kd α} {e base : Nat} {w w1 W : World} {ok ok' : Nat → Prop} {u v v1 : Value} {xs : List α} {e' g : Nat}
theorem S_nil (zs : Array Value) (d : Kd α) (e : Nat) (w : World) (base : Nat) (ok : Nat → Prop) : S zs d e w base ok (.slice none 0 0) [] := ⟨Kd.S_nil _ _ _ _ _, Spare.nil _ _ _⟩
theorem S_in (h : Kd.S d e w base ok v xs) : ∀ k, v.ownBlock = some k → ok k := (Kd.S_R h).1
theorem S_step (h : S zs d e w base ok v xs) (hm : ∀ k, ok k → k < w.heap.size → w1.heap[k]? = w.heap[k]?) : S zs d e w1 base ok v xs :=
  ⟨Kd.S_step h.1 hm, h.2.move fun k hk => hm k (S_in h.1 k hk) (Kd.S_lt h.1 k hk)⟩
theorem S_mono (h : S zs d e w base ok v xs) (hok : ∀ k, ok k → ok' k) : S zs d e w base ok' v xs := ⟨Kd.S_mono h.1 hok, h.2⟩
theorem S_below (h : S zs d e w base ok v xs) (hb : Below w.heap.size w w1) : S zs d e w1 base ok v xs := S_step h (fun k _ hk => hb.block k hk)
theorem S_alloc (h : S zs d e w base ok v xs) (o : Obj) : S zs d e (w.alloc o) base ok v xs := S_below h (below_alloc (Below.refl _ _) o)
theorem S_drew (h : S zs d e w base ok v xs) : S zs d e w.drew base ok v xs := S_below h (below_drew (Below.refl _ _))
theorem S_drewN (h : S zs d e w base ok v xs) (m : Nat) : S zs d e (w.drewN m) base ok v xs := S_below h (pw_below_drewN (Below.refl _ _) m)
theorem S_far (h : S zs d e w base ok v xs) {p : Addr} (hok : ∀ k, ok k → k ≠ p.block) (u : Value) : S zs d e (w.setCell p u) base ok v xs := S_step h (fun k ho _ => Below.heap_setCell w p u k (hok k ho))
theorem S_elder' (h : S zs d e W base ok u xs) (hbase : ∀ k, v.ownBlock = some k → W.heap.size ≤ k) (hb : Below W.heap.size W w1) : S zs d e w1 base (fun k => ok k ∧ some k ≠ v.ownBlock) u xs :=
  ⟨Kd.S_elder' h.1 hbase hb, (S_below h hb).2⟩
theorem S_elderB (h : S zs d e w base ok v xs) (a : Nat) (ha : w.heap.size ≤ a) : S zs d e w base (fun k => ok k ∧ k ≠ a) v xs := ⟨Kd.S_elderB h.1 a ha, h.2⟩
theorem S_typed (h : S zs d e w base ok v xs) : ∀ k, v.ownBlock = some k → ∃ cells, w.heap[k]? = some (.cells cells e (0, 0)) := Kd.S_typed h.1
theorem S_over' (h : S zs d e W base ok u xs) (hty : ∀ k, v.ownBlock = some k → ∃ cells, W.heap[k]? = some (.cells cells e' (0, 0))) (ht : ∀ q, q ∈ e :: d.E → q ≠ e') (hg : W.grownBy w1 v.ownBlock) : S zs d e w1 base ok u xs := by
  refine ⟨Kd.S_over' h.1 hty ht hg, h.2.move fun k hk => hg.block k (Kd.S_lt h.1 k hk) fun he => ?_⟩
  obtain ⟨c1, hc1⟩ := Kd.S_typed h.1 k hk
  obtain ⟨c2, hc2⟩ := hty k he.symm
  rw [hc1] at hc2
  injection hc2 with hc2
  injection hc2 with _ hc2
  exact ht e List.mem_cons_self hc2
theorem S_types (h : S zs d e w base ok v xs) {g t : Nat} {cells : Array Value} (hb : w.heap[g]? = some (.cells cells t (0, 0))) (ht : ∀ q, q ∈ e :: d.E → q ≠ t) : S zs d e w base (fun k => ok k ∧ k ≠ g) v xs := ⟨Kd.S_types h.1 hb ht, h.2⟩
theorem S_set (h : S zs d e w base ok v xs) {g t : Nat} {cells : Array Value} (hb : w.heap[g]? = some (.cells cells t (0, 0))) (ht : ∀ q, q ∈ e :: d.E → q ≠ t) (j : Nat) (u : Value) : S zs d e (w.setCell ⟨g, j, none⟩ u) base ok v xs :=
  S_mono (S_far (p := ⟨g, j, none⟩) (S_types h hb ht) (fun _ hk => hk.2) u) (fun _ hk => hk.1)
theorem S_away (h : S zs d e w base ok v xs) (hok : ∀ k, ok k → k ≠ g) : some g ≠ v.ownBlock := Kd.S_away h.1 hok
theorem S_ne (h : S zs d e w base ok v xs) {t : Nat} {cells : Array Value} (hb : w.heap[g]? = some (.cells cells t (0, 0))) (ht : e ≠ t) : some g ≠ v.ownBlock := Kd.S_ne h.1 hb ht
theorem S_slice (h : S zs d e w base ok v xs) : ∃ A c, v = .slice A xs.length c := Kd.S_slice h.1
end
section
variable {P : Program} {ops : Array Oper} {rest : List Oper} {o : Oper} {a : Act} {Q : Exit → Act → World → Prop} {α : Type}
theorem S_append (d : Kd α) {w0 W : World} (base : Nat) (hgd : o.guard = none) (s x : Operand) (t e : TypeId) (z : Value) (bytes : Nat)
    (ho : o.op = .call { callee := .builtin .append, args := #[s, x], argTypes := #[t, t] })
    (ht : P.underlying t = some (.slice e)) (hinfo : (P.info? e).map (fun i => (i.zero, i.size, i.bytes)) = some (some z, d.sz, bytes)) (hz : z.cells.size = d.sz) (hs0 : 0 < d.sz) (hb0 : 0 < bytes)
    (v : Value) (xs : List α) (p : α) (cs : List Value) (ok okp : Nat → Prop) (hs : a.eval s = v) (hx : a.eval x = .slice (some ⟨W.heap.size, 0, none⟩) 1 1) (hp : d.M W base okp p cs) (hokp : ∀ k, okp k → ok k ∧ some k ≠ v.ownBlock) (hfresh : ∀ k, W.heap.size ≤ k → ok k)
    (HO : S z.cells d e W base (fun k => ok k ∧ ¬ okp k) v xs) (HB : Below base w0 W) (hbase : base ≤ W.heap.size) (hl : (xs.length + 1) * bytes ≤ 140737488355328)
    (h : ∀ v1 w1, S z.cells d e w1 base ok v1 (xs ++ [p]) → Below base w0 w1 → W.grownBy w1 v.ownBlock → (v1.ownBlock = v.ownBlock ∨ ∃ b, v1.ownBlock = some b ∧ W.heap.size ≤ b) → wpList P ops Q rest (a.put o.dst v1) w1) :
    wpList P ops Q (o :: rest) a (W.alloc (.cells cs.toArray e)) := by
  obtain ⟨f, hf, hR⟩ := Kd.S_tag HO.1 xs.length okp (fun _ hk h2 => h2.2 hk)
  have hR' := Kd.R_mono hR (fun _ hk => hk.1)
  have hpM : (Kd.tag f d).M W base okp (p, xs.length) cs := d.M_mono (fun k hk => ⟨hk, hf k hk⟩) hp
  obtain ⟨h0, inner, hown, hr⟩ := hR'
  obtain ⟨i0, hi, hzz⟩ := Option.map_eq_some_iff.1 hinfo
  simp only [Prod.mk.injEq] at hzz
  obtain ⟨hz0, hz1, hz2⟩ := hzz
  have hlen : xs.length + 1 ≤ 140737488355328 := Nat.le_trans (Nat.le_mul_of_pos_right _ hb0) hl
  have hys : cs.length = d.sz := d.K_len (d.K_of_M hp)
  have hone : ∀ u ∈ cs, u.oneCell' = true := d.K_one (d.K_of_M hp)
  have hnews : ∀ j u, cs[j]? = some u → (W.alloc (.cells cs.toArray e)).cell? ((⟨W.heap.size, 0, none⟩ : Addr).add j) = some u := by
    simpa using World.news_of_block (cs := cs.toArray) (t := e) (fr := (0, 0)) (heap_alloc_new W (.cells cs.toArray e))
  rw [List.length_zipIdx] at hown
  have hown' : (W.alloc (.cells cs.toArray e)).ownsRow base e d.sz v xs.length inner := hown.alloc _
  have hsp : Spare z.cells d.sz (W.alloc (.cells cs.toArray e)) v := (S_alloc HO _).2
  have hsz : (Kd.tag f d).sz = d.sz := rfl
  obtain ⟨v1, w1, hrun, hown1, hg1, _, hat⟩ := run_append_own_at (P := P) (W.alloc (.cells cs.toArray e)) base t o.type e i0 z d.sz bytes ht hi hz0 hz1 hz2 hz hs0 v xs.length inner hown' ⟨W.heap.size, 0, none⟩ 1 1 cs (by rw [hys]; simp) hnews hone (by simp only [maxLen]; omega) hl (by simp; omega)
  have hspare := run_append_own_spare (P := P) (W.alloc (.cells cs.toArray e)) base t o.type e i0 z d.sz bytes ht hi hz0 hz1 hz2 hz v xs.length inner hown' hsp ⟨W.heap.size, 0, none⟩ 1 1 cs (by rw [hys]; simp) hnews hone (by simp only [maxLen]; omega) hl v1 w1 hrun
  have hg : W.grownBy w1 v.ownBlock := World.grownBy.trans (World.grownBy_alloc W _ _) hg1
  have hat' : v1.ownBlock = v.ownBlock ∨ ∃ b, v1.ownBlock = some b ∧ W.heap.size ≤ b := by
    rcases hat with hat | hat
    · exact .inl hat
    · exact .inr ⟨_, hat, by simp⟩
  have hfin := Kd.R_appended (d := Kd.tag f d) (ok := ok) h0 hr hpM hokp hfresh (by rw [List.length_zipIdx]; exact hown1) hg hat'
  rw [← Kd.zip_snoc] at hfin
  have hb1 : Below base w0 w1 := (HB.alloc hbase _).grown hg1 (by simp; omega) (own_base hown')
  refine wpList_plain hgd fun K hK => ?_
  unfold Oper.wp execOp
  simp only [ho, resolve, invoke, builtin, Sem.run_bind, Sem.run_pure, Result.andThen_ok, List.map_toArray, List.map_cons, List.map_nil, hs, hx, hrun]
  exact hK _ _ (h v1 w1 ⟨⟨f, hfin⟩, hspare⟩ hb1 hg hat')
end
section
variable {P : Program} {ops : Array Oper} {o : Oper} {a : Act} {Q : Exit → Act → World → Prop}
/-- append(v, x), a row of numbers of the call's own; the literal's row, wherever it lies. -/
theorem R_append_at {Kc : Act → World → Prop} {E : Prop} (k : IntKind) {w0 W : World} (base : Nat) (hgd : o.guard = none) (s x : Operand) (t e : TypeId) (z : Value) (bytes : Nat)
    (ho : o.op = .call { callee := .builtin .append, args := #[s, x], argTypes := #[t, t] })
    (ht : P.underlying t = some (.slice e)) (hinfo : (P.info? e).map (fun i => (i.zero, i.size, i.bytes)) = some (some z, 1, bytes)) (hz : z.cells.size = 1) (hb0 : 0 < bytes)
    (v : Value) (xs : List Int) (p : Int) (g : Nat) (ok : Nat → Prop) (hs : a.eval s = v) (hx : a.eval x = .slice (some ⟨g, 0, none⟩) 1 1) (hbx : W.heap[g]? = some (.cells #[.int k p] e (0, 0))) (hfresh : ∀ j, W.heap.size ≤ j → ok j)
    (HO : (Kd.int k).R e W base ok v xs) (HB : Below base w0 W) (hbase : base ≤ W.heap.size) (hl : (xs.length + 1) * bytes ≤ 140737488355328)
    (h : ∀ v1 w1, (Kd.int k).R e w1 base ok v1 (xs ++ [p]) → Below base w0 w1 → W.grownBy w1 v.ownBlock → (v1.ownBlock = v.ownBlock ∨ ∃ b, v1.ownBlock = some b ∧ W.heap.size ≤ b) → Kc (a.put o.dst v1) w1) :
    if Region.wanted o (yielded ops a.tmps) = true then Oper.wp P o a W Kc Q else E := by
  have hw : Region.wanted o (yielded ops a.tmps) = true := by simp [Region.wanted, hgd]
  rw [if_pos hw]
  obtain ⟨h0, inner, hown, hr⟩ := HO
  obtain ⟨i0, hi, hzz⟩ := Option.map_eq_some_iff.1 hinfo
  simp only [Prod.mk.injEq] at hzz
  obtain ⟨hz0, hz1, hz2⟩ := hzz
  have hlen : xs.length + 1 ≤ 140737488355328 := Nat.le_trans (Nat.le_mul_of_pos_right _ hb0) hl
  have hnews : ∀ j u, ([.int k p] : List Value)[j]? = some u → W.cell? ((⟨g, 0, none⟩ : Addr).add j) = some u := by
    simpa using World.news_of_block hbx
  have hone : ∀ u ∈ ([.int k p] : List Value), u.oneCell' = true := by
    intro u hu
    rw [List.mem_singleton.1 hu]
    rfl
  obtain ⟨v1, w1, hrun, hown1, hg1, _, hat⟩ := run_append_own_at (P := P) W base t o.type e i0 z 1 bytes ht hi hz0 hz1 hz2 hz (by omega) v xs.length inner hown ⟨g, 0, none⟩ 1 1 [.int k p] rfl hnews hone (by simp only [maxLen]; omega) hl hbase
  have hat' : v1.ownBlock = v.ownBlock ∨ ∃ b, v1.ownBlock = some b ∧ W.heap.size ≤ b := by
    rcases hat with hat | hat
    · exact .inl hat
    · exact .inr ⟨_, hat, Nat.le_refl _⟩
  have hfin := Kd.R_appended (d := Kd.int k) (ok := ok) (okp := fun _ => False) (p := p) (cs := [.int k p]) h0 hr rfl (fun _ hk => hk.elim) hfresh hown1 hg1 hat'
  unfold Oper.wp execOp
  simp only [ho, resolve, invoke, builtin, Sem.run_bind, Sem.run_pure, Result.andThen_ok, List.map_toArray, List.map_cons, List.map_nil, hs, hx, hrun]
  exact h v1 w1 hfin (HB.grown hg1 hbase (own_base hown)) hg1 hat'
end
end Kz
end Go.Proofs.YtkmffeicgpocgaaDoorW.PrintWords
