/- Plain laws: the place at a column of a line; The walks of layer 11 (lines): the place at a column; Plain laws: the steps of a motion; The walks of layer 16 (move): the steps; The walks of layer 16 (move): which motion; The walks of layer 16 (move): the motion of a kind; The walks of layer 16 (move): is it a motion; where it leads; The walks of layer 16 (move): columns, places, spans; The walks of layer 9 (store): a new store; The walks of layer 9 (store): a new store; The walks of the law's own functions: laid; The document's example; The walks of layer 5 (word) at the empty text; The word motions at the empty text; The walks of layer 16 (move): Span; Go at no motion; The document's functions at the empty text: no units, no clusters. -/
import Derived.Test.YtmelgecjaonbbaaGreatDoorQE3
import Derived.Laws.EntriesVeiled
set_option linter.unusedSimpArgs false
set_option linter.unusedVariables false
namespace Go.Bod
/-- The end of the last cluster up to which there are at most col cells: n cells lie ahead, the last end was a. -/
def plOf (y : ByteArray) (col : Int) : Int → Nat → List (Nat × Nat) → Nat
  | _, a, [] => a
  | n, a, x :: xs => if col < n + mcel y x.1 then a else plOf y col (n + mcel y x.1) x.2 xs
/-- The walk may be cut at xs. -/
def PlCut (y : ByteArray) (col : Int) (xs : List (Nat × Nat)) : Prop := ∀ r, plOf y col 0 0 (xs ++ r) = plOf y col (cellsOf y xs) (plOf y col 0 0 xs) r
/-- The walk ends in xs. -/
def PlEnd (y : ByteArray) (col : Int) (xs : List (Nat × Nat)) : Prop := ∀ r, plOf y col 0 0 (xs ++ r) = plOf y col 0 0 xs
theorem plCut_nil (y : ByteArray) (col : Int) : PlCut y col [] := fun r => rfl
theorem plCut_go {y : ByteArray} {col : Int} {xs : List (Nat × Nat)} {x : Nat × Nat} (h : PlCut y col xs) (hc : ¬ col < cellsOf y xs + mcel y x.1) : plOf y col 0 0 (xs ++ [x]) = x.2 ∧ PlCut y col (xs ++ [x]) := by
  have h1 : plOf y col 0 0 (xs ++ [x]) = x.2 := by rw [h]; simp only [plOf]; rw [if_neg hc]
  refine ⟨h1, fun r => ?_⟩
  rw [h1, List.append_assoc, h, List.singleton_append]
  simp only [plOf]
  rw [if_neg hc]
  congr 1
  simp [cellsOf]
theorem plCut_stop {y : ByteArray} {col : Int} {xs : List (Nat × Nat)} {x : Nat × Nat} (h : PlCut y col xs) (hc : col < cellsOf y xs + mcel y x.1) : plOf y col 0 0 (xs ++ [x]) = plOf y col 0 0 xs ∧ PlEnd y col (xs ++ [x]) := by
  have h1 : plOf y col 0 0 (xs ++ [x]) = plOf y col 0 0 xs := by rw [h]; simp only [plOf]; rw [if_pos hc]
  refine ⟨h1, fun r => ?_⟩
  rw [h1, List.append_assoc, h, List.singleton_append]
  simp only [plOf]
  rw [if_pos hc]
theorem plCut_done {y : ByteArray} {col : Int} {xs : List (Nat × Nat)} (h : PlEnd y col xs) {l : List (Nat × Nat)} (hp : xs <+: l) : plOf y col 0 0 l = plOf y col 0 0 xs := by
  obtain ⟨r, rfl⟩ := hp; exact h r
/-- The place at a column. -/
def placeOf (y : ByteArray) (col : Int) : Nat := plOf y col 0 0 (clist y)
end Go.Bod
namespace Go.Proofs.YtmelgecjaonbbaaGreatDoor
open Go.RowKit Go.Bod
attribute [local go_sem] Oper.semAt_some

/-- Between two rounds of At: the column, the line, the place so far, the count so far. -/
def AtI (y : ByteArray) (w : World) (g2 g3 b e : Nat) (col : Int) (pre : List (Clu y)) (W : World) : Prop :=
  W.heap[w.heap.size]? = some (.cells #[.int .i64 col] 3 (0, 0)) ∧ W.heap[g2]? = some (.cells #[.int .i64 b, .int .i64 e] 41 (0, 0)) ∧ W.heap[g2 + 1]? = some (.cells #[.int .i64 (b + plOf y col 0 0 (cl1 pre))] 3 (0, 0)) ∧
    W.heap[g2 + 1 + 1]? = some (.cells #[.int .i64 (cellsOf y (cl1 pre))] 3 (0, 0)) ∧ Below w.heap.size w W ∧ g3 < W.heap.size ∧ PlCut y col (cl1 pre)
/-- Where At leaves its loop. -/
def AtX (y : ByteArray) (w : World) (g2 b : Nat) (col : Int) (c : Code) (pre : List (Clu y)) (W : World) : Prop :=
  W.heap[g2 + 1]? = some (.cells #[.int .i64 (b + plOf y col 0 0 (cl1 pre))] 3 (0, 0)) ∧ Below w.heap.size w W ∧ (c = .exit 0 ∧ PlEnd y col (cl1 pre))
/-- The frame of At in a round, and the loop's variable. -/
def AtAx (y : ByteArray) (p : Option Addr) (g0 g2 g3 l b e : Nat) (col : Int) (x : Clu y) (a' : Act) (W : World) : Prop :=
  ∃ bb, g3 < bb ∧ W.heap[bb]? = some (.cells #[.int .i64 x.1.1, .int .i64 x.1.2, .int .i64 (mcls y x.1.1), .int .i64 (mcel y x.1.1)] 34 (0, 0)) ∧
    a' = ⟨#[.iface 23 (.pointer p), .int .i64 (l : Int), .int .i64 col, undef, undef, .pointer (some ⟨g0, 0, none⟩), .int .i64 0, .int .i64 0, .pointer (some ⟨g2, 0, none⟩), .int .i64 0, .pointer (some ⟨g2 + 1, 0, none⟩), .pointer (some ⟨g2 + 1 + 1, 0, none⟩), .pointer (some ⟨bb, 0, none⟩), .tuple #[.agg #[.int .i64 (b : Int), .int .i64 (e : Int)], .int .i64 0], .iface 23 (.pointer p), .int .i64 (l : Int), .tuple #[.agg #[.int .i64 (b : Int), .int .i64 (e : Int)], .int .i64 0], .agg #[.int .i64 (b : Int), .int .i64 (e : Int)], .int .i64 0, .int .i64 0, .bool false, undef, .pointer (some ⟨g2, 0, none⟩), .int .i64 (b : Int), .iface 23 (.pointer p), .pointer (some ⟨g2, 0, none⟩), .int .i64 (b : Int), .pointer (some ⟨g2, 1, none⟩), .int .i64 (e : Int), .string y, .func (.func 139) #[] #[.pointer (some ⟨g3, 0, none⟩)], .agg #[.int .i64 x.1.1, .int .i64 x.1.2, .int .i64 (mcls y x.1.1), .int .i64 (mcel y x.1.1)], undef, undef, undef, undef, undef, undef, undef, undef, undef, undef, undef, undef, undef], []⟩

set_option maxRecDepth 100000 in
theorem At_in (n : Nat) {w : World} {p : Option Addr} {s : ByteArray} (h : StoreOk w p s) (hT : Tabs w) (l : Nat) (hl : l < lcount s) (col : Int) (hc1 : -9223372036854775808 ≤ col) (hc2 : col ≤ 9223372036854775807) :
    CallsIn Fence.wide (n + 3) Tryz.prog 64 #[.iface 23 (.pointer p), .int .i64 l, .int .i64 col] w fun e w' => e = .returned (.tuple #[.int .i64 (lbeg s l + placeOf (s.extract (lbeg s l) (lend s l)) col), .int .i64 0]) ∧ Below w.heap.size w w' := by
  have hsz := h.size
  have hle := lbeg_le_lend hl
  have hS := Lib.hid (fun (w1 : World) (hb : Below w.heap.size w w1) => Span_any (h.below hb) (hT.of hb) l hl)
  have hX := Lib.hid (fun (w1 : World) (hb : Below w.heap.size w w1) => lslice_any (h.below hb) _ _ hle.1 hle.2)
  have hys : (s.extract (lbeg s l) (lend s l)).size ≤ 4294967296 := by rw [size_ext]; omega
  clear h
  generalize s.extract (lbeg s l) (lend s l) = y at *
  generalize lbeg s l = b at *
  generalize lend s l = e at *
  have hlen := clist_length y
  refine callsIn_of_wp_marks Tryz.func64 rfl trivial ?_ rfl
  simp only [Tryz.ntmps64, List.size_toArray, List.length_cons, List.length_nil, Nat.reduceAdd, Nat.reduceSub, Array.replicate_succ, Array.replicate_zero, List.push_toArray, List.append_toArray, List.nil_append, List.cons_append]
  gi_wp2_with fail
  refine ⟨trivial, ?_⟩
  refine (callsIn_wide.2 (hS.out _ (below_alloc (Below.refl _ _) _))).mono ?_
  rintro x2 w2 ⟨rfl, hb2⟩
  have hB2 := below_of_alloc hb2
  gi_wp2_with fail
  refine ⟨trivial, ?_⟩
  refine (callsIn_wide.2 (hX.out _ (below_alloc (below_alloc (below_alloc hB2 _) _) _))).mono ?_
  rintro x3 w3 ⟨rfl, hb3⟩
  gi_wp2_with fail
  refine ⟨trivial, ?_⟩
  refine (callsIn_wide.2 (Walk_any y _)).mono ?_
  rintro x4 w4 ⟨rfl, rfl⟩
  gi_wp2_with fail
  have hB2a : Below w.heap.size w (((w2.alloc (.cells #[.int .i64 b, .int .i64 e] 41)).alloc (.cells #[.int .i64 b] 3)).alloc (.cells #[.int .i64 0] 3)) := below_alloc (below_alloc (below_alloc hB2 _) _) _
  have hB3 := below_from hB2a hb3
  have q0 : w3.heap[w.heap.size]? = some (.cells #[.int .i64 col] 3 (0, 0)) := block_via hb3 (block_old _ (block_old _ (block_old _ (block_via hb2 (alloc_get w _)))))
  have q2 : w3.heap[w2.heap.size]? = some (.cells #[.int .i64 b, .int .i64 e] 41 (0, 0)) := block_via hb3 (block_old _ (block_old _ (alloc_get w2 _)))
  have q3 : w3.heap[w2.heap.size + 1]? = some (.cells #[.int .i64 b] 3 (0, 0)) := block_via hb3 (block_old _ (by have := alloc_get (w2.alloc (.cells #[.int .i64 b, .int .i64 e] 41)) (.cells #[.int .i64 b] 3); simpa using this))
  have q4 : w3.heap[w2.heap.size + 1 + 1]? = some (.cells #[.int .i64 0] 3 (0, 0)) := block_via hb3 (by have := alloc_get ((w2.alloc (.cells #[.int .i64 b, .int .i64 e] 41)).alloc (.cells #[.int .i64 b] 3)) (.cells #[.int .i64 0] 3); simpa using this)
  have z1 : w.heap.size < w2.heap.size := by have h2 := hb2.size; simp at h2; omega
  have z2 := block_lt q4
  have ht1 := hT.lt.2
  generalize w2.heap.size = g2 at *
  have hit := Walk1_stops (n + 2) y w3.heap.size w.heap.size (w3.alloc (.cells #[.string y] 9)) (by omega) ((hT.of hB3).alloc _) ht1 (by simp; omega) (by simp)
  refine wpIn_rangeFunc_ownH (α := Clu y) (n := n + 3) rfl (by omega) (encs := cvals y) (Kp := KeepB w.heap.size w3.heap.size) (gf := 139) (lb := #[.pointer (some ⟨w3.heap.size, 0, none⟩)]) rfl trivial (enters_of Tryz.func139 (by kernel_rfl) rfl)
    hit KeepB.trans (KeepB.put (by simp; omega) (by simp)) (Below.refl _ _) (fun _ => rfl)
    (AtI y w g2 w3.heap.size b e col) (AtX y w g2 b col) ?hI ?hIx ?h0
    (AtAx y p w.heap.size g2 w3.heap.size l b e col) ?hAx ?hassign ?hbody ?hdone ?hstop
  case hI =>
    refine OwnFrom.and (own_block _ _ (fun _ : List (Clu y) => #[.int .i64 col]) 3 (0, 0)) (OwnFrom.and (own_block _ _ (fun _ : List (Clu y) => #[.int .i64 b, .int .i64 e]) 41 (0, 0)) (OwnFrom.and (own_block _ _ (fun pre : List (Clu y) => #[.int .i64 (b + plOf y col 0 0 (cl1 pre))]) 3 (0, 0)) (OwnFrom.and (own_block _ _ (fun pre : List (Clu y) => #[.int .i64 (cellsOf y (cl1 pre))]) 3 (0, 0)) (OwnFrom.and (ownFrom_below (Nat.le_refl _) (by simp; omega)) (OwnFrom.and ?_ (own_pure _ _))))))
    intro s X Y row hs hg hr
    have := hg.size; omega
  case hIx =>
    intro c
    exact OwnFrom.and (own_block _ _ (fun pre : List (Clu y) => #[.int .i64 (b + plOf y col 0 0 (cl1 pre))]) 3 (0, 0)) (OwnFrom.and (ownFrom_below (Nat.le_refl _) (by simp; omega)) (own_pure _ _))
  case h0 => exact ⟨block_old _ q0, block_old _ q2, block_old _ (by simpa [cl1, plOf] using q3), block_old _ q4, below_alloc hB3 _, by simp, plCut_nil _ _⟩
  case hAx =>
    intro x a' u X Y row ⟨b, h1, h2, h3⟩ hg hr
    exact ⟨b, h1, own_block _ b (fun _ : Unit => _) _ _ () X Y row h2 hg hr, h3⟩
  case hassign =>
    intro l pre x W K ⟨i1, i2, i3, i4, hB, hz, hx⟩ hK
    have hBs := hB.size
    have HX := Lib.hid hx
    clear hx
    simp [cvals, cval]
    gi_wp2
    exact hK _ _ (keeps_alloc (KeepsFrom.refl _ _) _) ((KeepB.refl _ _ _).alloc (by omega) (by omega) _) ⟨block_old _ i1, block_old _ i2, block_old _ i3, block_old _ i4, hB.alloc (by omega) _, by simp; omega, HX.out⟩ ⟨W.heap.size, hz, alloc_get _ _, rfl⟩
  case hbody =>
    rintro l pre x a' W hl ⟨r, hr⟩ ⟨i1, i2, i3, i4, hB, hz, hx⟩ ⟨bb, hb1, hb2, rfl⟩ hlt
    have f3 := frozen_of_block i3 0
    have f4 := frozen_of_block i4 0
    have c0 : W.cell? ⟨w.heap.size, 0, none⟩ = some (.int .i64 col) := cell_of_block i1 0
    have c1 : W.cell? ⟨g2, 0, none⟩ = some (.int .i64 b) := cell_of_block i2 0
    have c2 : W.cell? ⟨g2 + 1, 0, none⟩ = some _ := cell_of_block i3 0
    have c5 : W.cell? ⟨g2 + 1 + 1, 0, none⟩ = some (.int .i64 (cellsOf y (cl1 pre))) := cell_of_block i4 0
    have c3 : W.cell? ⟨bb, 1, none⟩ = some (.int .i64 x.1.2) := cell_of_block hb2 1
    have c4 : W.cell? ⟨bb, 3, none⟩ = some (.int .i64 (mcel y x.1.1)) := cell_of_block hb2 3
    have hm := mcel_le y x.1.1
    have hcl := cellsOf_le y (cl1 pre)
    rw [cl1_length] at hcl
    have hsn := cellsOf_snoc y (cl1 pre) x.1
    rw [← cl1_snoc] at hsn
    have hx2 : x.1.2 ≤ y.size := (cfrom_mem _ 0 rfl (cb_zero y) x.1 x.2).2.2.1
    have hne : bb ≠ g2 + 1 + 1 := by omega
    have hne1 : g2 + 1 < W.heap.size := by omega
    have hne2 : g2 + 1 + 1 < W.heap.size := by omega
    by_cases hc : col < cellsOf y (cl1 pre) + mcel y x.1.1
    · have hpl := plCut_stop hx hc
      rw [← cl1_snoc] at hpl
      have e1 : decide (col < cellsOf y (cl1 pre) + mcel y x.1.1) = true := by simp [hc]
      generalize cellsOf y (cl1 pre) = n1 at *
      generalize mcel y x.1.1 = n0 at *
      generalize plOf y col 0 0 (cl1 pre) = a0 at *
      have HS := Lib.hid hsn
      have HP := Lib.hid hpl
      clear hsn hx hpl
      gi_wp2
      refine ⟨keeps_set (KeepsFrom.refl _ _) _ _, ?_, hB.setCell (by show w.heap.size ≤ g2 + 1 + 1; omega) _, rfl, HP.out.2⟩
      rw [HP.out.1]; exact set_other i3 (by omega) 0 _
    · have hpl := plCut_go hx hc
      rw [← cl1_snoc] at hpl
      have e1 : decide (col < cellsOf y (cl1 pre) + mcel y x.1.1) = false := by simp; omega
      generalize cellsOf y (cl1 pre) = n1 at *
      generalize mcel y x.1.1 = n0 at *
      generalize plOf y col 0 0 (cl1 pre) = a0 at *
      have HS := Lib.hid hsn
      have HP := Lib.hid hpl
      clear hsn hx hpl
      gi_wp2
      refine ⟨keeps_set (keeps_set (KeepsFrom.refl _ _) _ _) _ _, ((KeepB.refl _ _ _).set (p := ⟨g2 + 1 + 1, 0, none⟩) (by show w.heap.size ≤ g2 + 1 + 1; omega) (by show w3.heap.size ≠ g2 + 1 + 1; omega) _).set (p := ⟨g2 + 1, 0, none⟩) (by show w.heap.size ≤ g2 + 1; omega) (by show w3.heap.size ≠ g2 + 1; omega) _,
        set_other (set_other i1 (by omega) 0 _) (by omega) 0 _, set_other (set_other i2 (by omega) 0 _) (by omega) 0 _, ?_, ?_, (hB.setCell (by show w.heap.size ≤ g2 + 1 + 1; omega) _).setCell (by show w.heap.size ≤ g2 + 1; omega) _, by simpa using hz, HP.out.2⟩
      · rw [HP.out.1]
        have := set_block (set_other i3 (show g2 + 1 ≠ g2 + 1 + 1 by omega) 0 (.int .i64 (n1 + n0))) 0 (.int .i64 ((b : Int) + x.1.2))
        simpa using this
      · rw [HS.out]
        have := set_other (set_block i4 0 (.int .i64 (n1 + n0))) (show g2 + 1 + 1 ≠ g2 + 1 by omega) 0 (.int .i64 ((b : Int) + x.1.2))
        simpa using this
  case hdone =>
    rintro D ys W hD hy ⟨i1, i2, i3, i4, hB, hz, hx⟩ hK
    have c2 : W.cell? ⟨g2 + 1, 0, none⟩ = some (.int .i64 (b + plOf y col 0 0 (cl1 ys))) := cell_of_block i3 0
    rw [hy] at c2
    clear hy hx
    gi_wp2
    refine ⟨by simp, .inl ⟨_, _, rfl, run_takeDeferred hK, ?_⟩⟩
    exact ⟨.tuple #[.int .i64 (b + plOf y col 0 0 (clist y)), .int .i64 0], by simp [results, Tryz.results64, go_sem], rfl, hB.trans (belowK_b (w := w) (Nat.le_refl _) W D _ _ (by simp at hD; omega) hK rfl rfl)⟩
  case hstop =>
    intro D c pre W hD hsp ⟨i3, hB, hc, hx⟩ hK
    subst hc
    have c2 : W.cell? ⟨g2 + 1, 0, none⟩ = some (.int .i64 (b + plOf y col 0 0 (cl1 pre))) := cell_of_block i3 0
    rw [← plCut_done hx hsp] at c2
    clear hsp hx
    gi_wp2
    refine ⟨by simp, .inl ⟨_, _, rfl, run_takeDeferred hK, ?_⟩⟩
    exact ⟨.tuple #[.int .i64 (b + plOf y col 0 0 (clist y)), .int .i64 0], by simp [results, Tryz.results64, go_sem], rfl, hB.trans (belowK_b (w := w) (Nat.le_refl _) W D _ _ (by simp at hD; omega) hK rfl rfl)⟩
theorem At11_any {w : World} {p : Option Addr} {s : ByteArray} (h : StoreOk w p s) (hT : Tabs w) (l : Nat) (hl : l < lcount s) (col : Int) (hc1 : -9223372036854775808 ≤ col) (hc2 : col ≤ 9223372036854775807) :
    Calls Tryz.prog 64 #[.iface 23 (.pointer p), .int .i64 l, .int .i64 col] w fun e w' => e = .returned (.tuple #[.int .i64 (lbeg s l + placeOf (s.extract (lbeg s l) (lend s l)) col), .int .i64 0]) ∧ Below w.heap.size w w' := callsIn_wide.1 (At_in 0 h hT l hl col hc1 hc2)
end Go.Proofs.YtmelgecjaonbbaaGreatDoor
namespace Go.Bod
/-- The column of a place. -/
def lcol (s : ByteArray) (k : Nat) : Int := colOf (s.extract (lbeg s (nlq s k)) (lend s (nlq s k))) ((k : Int) - lbeg s (nlq s k))
/-- The place at a column of a line. -/
def lat (s : ByteArray) (l : Nat) (col : Int) : Nat := lbeg s l + placeOf (s.extract (lbeg s l) (lend s l)) col
theorem plOf_le {y : ByteArray} {col : Int} : ∀ {xs : List (Nat × Nat)} {n : Int} {a B : Nat}, a ≤ B → (∀ x ∈ xs, x.2 ≤ B) → plOf y col n a xs ≤ B
  | [], n, a, B, h, _ => h
  | x :: xs, n, a, B, h, hx => by
    simp only [plOf]
    split
    · exact h
    · exact plOf_le (hx x (List.mem_cons_self ..)) fun z hz => hx z (List.mem_cons_of_mem _ hz)
theorem placeOf_le (y : ByteArray) (col : Int) : placeOf y col ≤ y.size := plOf_le (Nat.zero_le _) fun x hx => (cfrom_mem _ 0 rfl (cb_zero y) x hx).2.2.1
theorem lat_le {s : ByteArray} {l : Nat} (hl : l < lcount s) (col : Int) : lat s l col ≤ lend s l := by
  have h1 := placeOf_le (s.extract (lbeg s l) (lend s l)) col
  have h2 := lbeg_le_lend hl
  rw [size_ext] at h1
  unfold lat; omega
/-- 'over': where it leads, whether it can be done, the goal behind it. -/
def overM (s : ByteArray) (k : Nat) (d : Int) (goal : Int) : Nat × Bool × Int :=
  if (nlq s k : Int) + d < 0 ∨ (lcount s : Int) ≤ nlq s k + d then (k, false, goal)
  else (lat s ((nlq s k : Int) + d).toNat (if goal < 0 then lcol s k else goal), true, if goal < 0 then lcol s k else goal)
theorem nlq_lt' {s : ByteArray} {k : Nat} (h : k ≤ s.size) : nlq s k < lcount s := by unfold lcount; have := nlq_mono s h; omega
theorem overM_le {s : ByteArray} {k : Nat} (hk : k ≤ s.size) (d goal : Int) : (overM s k d goal).1 ≤ s.size := by
  unfold overM
  split
  · exact hk
  · next h =>
    have hl : ((nlq s k : Int) + d).toNat < lcount s := by omega
    exact Nat.le_trans (lat_le hl _) (lbeg_le_lend hl).2
theorem cellsOf_range (y : ByteArray) (l : List (Nat × Nat)) : 0 ≤ cellsOf y l ∧ cellsOf y l ≤ 2 * l.length := by
  induction l with
  | nil => simp [cellsOf]
  | cons x l ih =>
    have h : 0 ≤ mcel y x.1 ∧ mcel y x.1 ≤ 2 := by
      unfold mcel wcl
      repeat' split
      all_goals omega
    simp only [cellsOf, List.map_cons, List.sum_cons, List.length_cons] at *
    omega
theorem lcol_range (s : ByteArray) (k : Nat) : 0 ≤ lcol s k ∧ lcol s k ≤ 2 * s.size := by
  unfold lcol colOf
  have h1 := cellsOf_range (s.extract (lbeg s (nlq s k)) (lend s (nlq s k))) (List.takeWhile (fun x => decide ((x.2 : Int) ≤ (k : Int) - lbeg s (nlq s k))) (clist (s.extract (lbeg s (nlq s k)) (lend s (nlq s k)))))
  have h2 := (List.takeWhile_sublist (fun x : Nat × Nat => decide ((x.2 : Int) ≤ (k : Int) - lbeg s (nlq s k))) (l := clist (s.extract (lbeg s (nlq s k)) (lend s (nlq s k))))).length_le
  have h3 := clist_length (s.extract (lbeg s (nlq s k)) (lend s (nlq s k)))
  rw [size_ext] at h3
  constructor
  · exact h1.1
  · refine Int.le_trans h1.2 ?_
    omega
end Go.Bod
namespace Go.Proofs.YtmelgecjaonbbaaGreatDoor
open Go.RowKit Go.Bod

/-- Where a step stands: the store, the walker's block. -/
structure At (W0 w : World) (p : Option Addr) (s : ByteArray) (g : Nat) (goal : Int) : Prop where
  store : StoreOk W0 p s
  tabs : Tabs W0
  new : W0.heap.size ≤ g
  below : Below W0.heap.size W0 w
  blk : w.heap[g]? = some (.cells #[.pointer p, .int .i64 goal] 117 (0, 0))
  g1 : -9223372036854775808 ≤ goal
  g2 : goal ≤ 9223372036854775807
theorem At.via {W0 w w' : World} {p : Option Addr} {s : ByteArray} {g : Nat} {goal : Int} (h : At W0 w p s g goal) (hb : Below w.heap.size w w') : At W0 w' p s g goal :=
  ⟨h.store, h.tabs, h.new, below_from h.below hb, block_via hb h.blk, h.g1, h.g2⟩
theorem At.st {W0 w : World} {p : Option Addr} {s : ByteArray} {g : Nat} {goal : Int} (h : At W0 w p s g goal) : StoreOk w p s := h.store.below h.below
theorem At.tb {W0 w : World} {p : Option Addr} {s : ByteArray} {g : Nat} {goal : Int} (h : At W0 w p s g goal) : Tabs w := h.tabs.of h.below
/-- What a step leaves. -/
def StepPost (W0 w : World) (p : Option Addr) (s : ByteArray) (g : Nat) (r : Nat × Bool × Int) (e : Ending) (w' : World) : Prop :=
  e = .returned (.tuple #[.int .i64 r.1, .bool r.2.1]) ∧ At W0 w' p s g r.2.2 ∧ Mods (fun x => x = g) w w'

theorem line_any {W0 w : World} {p : Option Addr} {s : ByteArray} {g : Nat} {goal : Int} (h : At W0 w p s g goal) (k : Nat) (hk : k ≤ s.size) :
    Calls Tryz.prog 221 #[.pointer (some ⟨g, 0, none⟩), .int .i64 k] w fun e w' => e = .returned (.agg #[.int .i64 (lbeg s (nlq s k)), .int .i64 (lend s (nlq s k))]) ∧ Below w.heap.size w w' := by
  have hl := nlq_lt' hk
  have hO := Lib.hid (fun (w1 : World) (hb : Below w.heap.size w w1) => Of_any (h.st.below hb) (h.tb.of hb) k hk)
  have hS := Lib.hid (fun (w1 : World) (hb : Below w.heap.size w w1) => Span_any (h.st.below hb) (h.tb.of hb) (nlq s k) hl)
  have hblk := h.blk
  clear h
  generalize lbeg s (nlq s k) = b at *
  generalize lend s (nlq s k) = e at *
  generalize nlq s k = l at *
  have c0 : w.cell? ⟨g, 0, none⟩ = some (.pointer p) := cell_of_block hblk 0
  have z0 := block_lt hblk
  have cX : ∀ (w1 : World), Below w.heap.size w w1 → w1.cell? ⟨g, 0, none⟩ = some (.pointer p) := fun w1 hb => cell_via hb c0
  have CX := Lib.hid cX
  clear cX
  go_enter Tryz.func221, Tryz.ntmps221
  go_wp2_with fail
  refine (hO.out _ (below_alloc (Below.refl _ _) _)).mono ?_
  rintro x1 w1 ⟨rfl, hb1⟩
  have hB1 := below_of_alloc hb1
  have c1 := CX.out _ hB1
  go_wp2_with fail
  refine (hS.out _ hB1).mono ?_
  rintro x2 w2 ⟨rfl, hb2⟩
  have hB2 := below_from hB1 hb2
  have hg := block_via hb2 (block_via hb1 (alloc_get w _))
  have hn := block_lt hg
  have k0 := frozen_of_block hg
  have d0 : w2.cell? ⟨w.heap.size, 0, none⟩ = some _ := cell_of_block hg 0
  have d1 : w2.cell? ⟨w.heap.size, 1, none⟩ = some _ := cell_of_block hg 1
  clear hb1 hb2
  go_wp2_with fail
  refine bodyPost_ret (v := .agg #[.int .i64 b, .int .i64 e]) (by simp [results, Tryz.results221, go_sem, d0, d1, hn]) rfl ⟨rfl, ?_⟩
  exact below_alloc ((hB2.setCell (Nat.le_refl _) _).setCell (Nat.le_refl _) _) _

theorem fld_Span_From (a b : Int) (w : World) : (Instr.field 41 (.agg #[.int .i64 a, .int .i64 b]) 0).run Tryz.prog w = .ok (.int .i64 a) w := by kernel_rfl
theorem fld_Span_To (a b : Int) (w : World) : (Instr.field 41 (.agg #[.int .i64 a, .int .i64 b]) 1).run Tryz.prog w = .ok (.int .i64 b) w := by kernel_rfl
set_option maxRecDepth 100000 in
theorem lineStart_any {W0 w : World} {p : Option Addr} {s : ByteArray} {g : Nat} {goal : Int} (h : At W0 w p s g goal) (k : Nat) (hk : k ≤ s.size) :
    Calls Tryz.prog 191 #[.pointer (some ⟨g, 0, none⟩), .int .i64 k] w (StepPost W0 w p s g (lbeg s (nlq s k), true, goal)) := by
  have hL := Lib.hid (line_any h k hk)
  have H := Lib.hid h
  have hfd := fld_Span_From
  clear h
  go_enter Tryz.func191, Tryz.ntmps191
  go_wp2_with fail
  refine hL.out.mono ?_
  rintro x1 w1 ⟨rfl, hb1⟩
  go_wp2
  go_ret2
  exact ⟨rfl, H.out.via hb1, Mods.of_below hb1⟩
set_option maxRecDepth 100000 in
theorem lineEnd_any {W0 w : World} {p : Option Addr} {s : ByteArray} {g : Nat} {goal : Int} (h : At W0 w p s g goal) (k : Nat) (hk : k ≤ s.size) :
    Calls Tryz.prog 192 #[.pointer (some ⟨g, 0, none⟩), .int .i64 k] w (StepPost W0 w p s g (lend s (nlq s k), true, goal)) := by
  have hL := Lib.hid (line_any h k hk)
  have H := Lib.hid h
  have hfd := fld_Span_To
  clear h
  go_enter Tryz.func192, Tryz.ntmps192
  go_wp2_with fail
  refine hL.out.mono ?_
  rintro x1 w1 ⟨rfl, hb1⟩
  go_wp2
  go_ret2
  exact ⟨rfl, H.out.via hb1, Mods.of_below hb1⟩
theorem textStart_any {W0 w : World} {p : Option Addr} {s : ByteArray} {g : Nat} {goal : Int} (h : At W0 w p s g goal) (k : Nat) :
    Calls Tryz.prog 195 #[.pointer (some ⟨g, 0, none⟩), .int .i64 k] w (StepPost W0 w p s g (0, true, goal)) := by
  have H := Lib.hid h
  clear h
  go_enter Tryz.func195, Tryz.ntmps195
  go_wp2
  go_ret2
  exact ⟨rfl, H.out, Mods.refl _ _⟩
theorem textEnd_any {W0 w : World} {p : Option Addr} {s : ByteArray} {g : Nat} {goal : Int} (h : At W0 w p s g goal) (k : Nat) :
    Calls Tryz.prog 196 #[.pointer (some ⟨g, 0, none⟩), .int .i64 k] w (StepPost W0 w p s g (s.size, true, goal)) := by
  have hL := Lib.hid (sLen_any h.st)
  have c0 : w.cell? ⟨g, 0, none⟩ = some (.pointer p) := cell_of_block h.blk 0
  have H := Lib.hid h
  clear h
  go_enter Tryz.func196, Tryz.ntmps196
  go_wp2_with fail
  refine hL.out.mono ?_
  rintro x1 w1 ⟨rfl, hb1⟩
  go_wp2
  go_ret2
  exact ⟨rfl, H.out.via hb1, Mods.of_below hb1⟩
theorem left_any {W0 w : World} {p : Option Addr} {s : ByteArray} {g : Nat} {goal : Int} (h : At W0 w p s g goal) (k : Nat) (hk : k ≤ s.size) :
    Calls Tryz.prog 187 #[.pointer (some ⟨g, 0, none⟩), .int .i64 k] w (StepPost W0 w p s g ((iprev s k).toNat, decide (0 < k), goal)) := by
  have hsz := h.store.1
  have hr : 0 ≤ iprev s k := by unfold iprev; split; omega; split <;> omega
  have hL := sPrev_any h.st h.tb k (by omega) (by omega)
  rw [show iprev s k = ((iprev s k).toNat : Int) by omega] at hL
  have HL := Lib.hid hL
  have c0 : w.cell? ⟨g, 0, none⟩ = some (.pointer p) := cell_of_block h.blk 0
  have H := Lib.hid h
  clear h hL hr
  generalize (iprev s k).toNat = r at *
  go_enter Tryz.func187, Tryz.ntmps187
  go_wp2_with fail
  refine HL.out.mono ?_
  rintro x1 w1 ⟨rfl, hb1⟩
  go_wp2
  go_ret2
  exact ⟨rfl, H.out.via hb1, Mods.of_below hb1⟩
theorem right_any {W0 w : World} {p : Option Addr} {s : ByteArray} {g : Nat} {goal : Int} (h : At W0 w p s g goal) (k : Nat) (hk : k ≤ s.size) :
    Calls Tryz.prog 188 #[.pointer (some ⟨g, 0, none⟩), .int .i64 k] w (StepPost W0 w p s g (cnext s k, decide (k < s.size), goal)) := by
  have hsz := h.store.1
  have hN := Lib.hid (fun (d : Nat) (os : Array Obj) => by
    have := sNext_any (h.st.below (below_regrown w d os)) (h.tb.of (below_regrown w d os)) k (by omega) (by omega)
    rwa [show inext s k = (cnext s k : Int) by simp [inext]; omega] at this)
  have hL := Lib.hid (fun (d : Nat) (os : Array Obj) => sLen_any (h.st.below (below_regrown w d os)))
  have c0 : w.cell? ⟨g, 0, none⟩ = some (.pointer p) := cell_of_block h.blk 0
  have cG := fun (d : Nat) (os : Array Obj) => cell_regrown c0 d os
  have H := Lib.hid h
  clear h
  generalize cnext s k = r at *
  go_enter Tryz.func188, Tryz.ntmps188
  go_wp2_with fail
  refine wp_region_quiet_below (by kernel_rfl) (by kernel_rfl) ?_
  repeat (quiet_step (first | exact Calls.regrown_of (hN.out _ _) | exact Calls.regrown_of (hL.out _ _)))
  refine wpQuiet_nil ?_
  intro _ hw'
  obtain ⟨⟨dq, osq⟩, hw''⟩ := hw'
  subst hw''
  go_wp2
  go_ret2
  exact ⟨rfl, H.out.via (below_regrown w dq osq), Mods.of_below (below_regrown w dq osq)⟩

set_option maxHeartbeats 1600000 in
set_option maxRecDepth 100000 in
theorem over_any {W0 w : World} {p : Option Addr} {s : ByteArray} {g : Nat} {goal : Int} (h : At W0 w p s g goal) (k : Nat) (hk : k ≤ s.size) (d : Int) (hd : d = 1 ∨ d = -1) :
    Calls Tryz.prog 222 #[.pointer (some ⟨g, 0, none⟩), .int .i64 k, .int .i64 d] w (StepPost W0 w p s g (overM s k d goal)) := by
  have hsz := h.store.1
  have hg1 := h.g1
  have hg2 := h.g2
  have hl := nlq_lt' hk
  have hlc : lcount s ≤ 4294967297 := by unfold lcount; have := nlq_le s s.size; omega
  have hO := Lib.hid (fun (w1 : World) (hb : Below w.heap.size w w1) => Of_any (h.st.below hb) (h.tb.of hb) k hk)
  have hC := Lib.hid (fun (w1 : World) (hb : Below w.heap.size w w1) => lCount_any (h.st.below hb) (h.tb.of hb))
  have hK : ∀ (w1 : World), Below w.heap.size w w1 → Calls Tryz.prog 62 #[.iface 23 (.pointer p), .int .i64 k] w1 fun e w' => e = .returned (.tuple #[.int .i64 (lcol s k), .int .i64 0]) ∧ Below w1.heap.size w1 w' :=
    fun w1 hb => Column_any (h.st.below hb) (h.tb.of hb) k hk
  have HK := Lib.hid hK
  have c0 : w.cell? ⟨g, 0, none⟩ = some (.pointer p) := cell_of_block h.blk 0
  have c1 : w.cell? ⟨g, 1, none⟩ = some (.int .i64 goal) := cell_of_block h.blk 1
  have CX := Lib.hid (fun (w1 : World) (hb : Below w.heap.size w w1) => (cell_via hb c0 : w1.cell? ⟨g, 0, none⟩ = some (.pointer p)))
  have CY := Lib.hid (fun (w1 : World) (hb : Below w.heap.size w w1) => (cell_via hb c1 : w1.cell? ⟨g, 1, none⟩ = some (.int .i64 goal)))
  have H := Lib.hid h
  have hcr := lcol_range s k
  have hA : ∀ (W : World) (col : Int), Below W0.heap.size W0 W → 0 ≤ (nlq s k : Int) + d → (nlq s k : Int) + d < lcount s → -9223372036854775808 ≤ col → col ≤ 9223372036854775807 →
      Calls Tryz.prog 64 #[.iface 23 (.pointer p), .int .i64 ((nlq s k : Int) + d), .int .i64 col] W fun e w' => e = .returned (.tuple #[.int .i64 (lat s ((nlq s k : Int) + d).toNat col), .int .i64 0]) ∧ Below W.heap.size W w' := by
    intro W col hb a1 a2 a3 a4
    have := At11_any (h.store.below hb) (h.tabs.of hb) ((nlq s k : Int) + d).toNat (by omega) col a3 a4
    rw [show ((((nlq s k : Int) + d).toNat : Nat) : Int) = (nlq s k : Int) + d by omega] at this
    refine this.mono ?_
    rintro e w' ⟨rfl, hb⟩
    exact ⟨by unfold lat; rw [Int.natCast_add], hb⟩
  have HA := Lib.hid hA
  clear hK hA h
  by_cases hout : (nlq s k : Int) + d < 0 ∨ (lcount s : Int) ≤ nlq s k + d
  · have hov : overM s k d goal = (k, false, goal) := by unfold overM; rw [if_pos hout]
    rw [hov]
    clear hov
    generalize nlq s k = l at *
    generalize lcount s = c at *
    by_cases e1 : (l : Int) + d < 0
    · have f1 : decide ((l : Int) + d < 0) = true := by simp [e1]
      go_enter Tryz.func222, Tryz.ntmps222
      go_wp2_with fail
      refine (hO.out _ (Below.refl _ _)).mono ?_
      rintro x1 w1 ⟨rfl, hb1⟩
      go_wp2
      go_ret2
      exact ⟨rfl, H.out.via hb1, Mods.of_below hb1⟩
    · have f1 : decide ((l : Int) + d < 0) = false := by simp; omega
      have f2 : decide ((c : Int) ≤ (l : Int) + d) = true := by simp; omega
      go_enter Tryz.func222, Tryz.ntmps222
      go_wp2_with fail
      refine (hO.out _ (Below.refl _ _)).mono ?_
      rintro x1 w1 ⟨rfl, hb1⟩
      have c1' := CX.out _ hb1
      go_wp2_with fail
      refine (hC.out _ hb1).mono ?_
      rintro x2 w2 ⟨rfl, hb2⟩
      have hB2 := below_from hb1 hb2
      go_wp2
      go_ret2
      exact ⟨rfl, H.out.via hB2, Mods.of_below hB2⟩
  · have hov : overM s k d goal = (lat s ((nlq s k : Int) + d).toNat (if goal < 0 then lcol s k else goal), true, if goal < 0 then lcol s k else goal) := by unfold overM; rw [if_neg hout]
    rw [hov]
    have hA2 := fun W col hb a3 a4 => HA.out W col hb (by omega) (by omega) a3 a4
    have HA2 := Lib.hid hA2
    clear hov hA2 HA
    have f1 : decide ((nlq s k : Int) + d < 0) = false := by simp; omega
    have f2 : decide ((lcount s : Int) ≤ (nlq s k : Int) + d) = false := by simp; omega
    have hwr : IntKind.i64.wrap ((nlq s k : Int) + d) = (nlq s k : Int) + d := by simp [IntKind.wrap, IntKind.bits, IntKind.signed]; omega
    generalize nlq s k = l at *
    generalize lcount s = c at *
    by_cases hgl : goal < 0
    · have f3 : decide (goal < 0) = true := by simp [hgl]
      simp only [if_pos hgl]
      go_enter Tryz.func222, Tryz.ntmps222
      go_wp2_with fail
      refine (hO.out _ (Below.refl _ _)).mono ?_
      rintro x1 w1 ⟨rfl, hb1⟩
      have c1' := CX.out _ hb1
      go_wp2_with fail
      refine (hC.out _ hb1).mono ?_
      rintro x2 w2 ⟨rfl, hb2⟩
      have hB2 := below_from hb1 hb2
      have c2' := CX.out _ hB2
      have c3' := CY.out _ hB2
      go_wp2_with fail
      refine (HK.out _ hB2).mono ?_
      rintro x3 w3 ⟨rfl, hb3⟩
      have hB3 := below_from hB2 hb3
      have c4' := CX.out _ hB3
      have c5' := CY.out _ hB3
      have H3 := H.out.via hB3
      have k3 := frozen_of_block H3.blk
      have z3 := block_lt H3.blk
      go_wp2_with fail
      have HM : Mods (fun x => x = g) w (w3.setCell ⟨g, 1, none⟩ (.int .i64 (lcol s k))) := (Mods.of_below (S := fun x => x = g) hB3).setCell ⟨g, 1, none⟩ (.inr rfl) _
      have H4 : At W0 (w3.setCell ⟨g, 1, none⟩ (.int .i64 (lcol s k))) p s g (lcol s k) :=
        ⟨H3.store, H3.tabs, H3.new, H3.below.setCell (p := ⟨g, 1, none⟩) H3.new _, set_block H3.blk 1 _, by omega, by omega⟩
      clear c1' c2' c3' c4' c5' k3 hB2 hB3 hb1 hb2 hb3 H3 HK CX CY hO hC
      generalize w3.setCell ⟨g, 1, none⟩ (.int .i64 (lcol s k)) = W at *
      generalize lcol s k = q at *
      have q0 : W.cell? ⟨g, 0, none⟩ = some (.pointer p) := cell_of_block H4.blk 0
      have q1 : W.cell? ⟨g, 1, none⟩ = some (.int .i64 q) := cell_of_block H4.blk 1
      have cG := fun (d : Nat) (os : Array Obj) => cell_regrown q0 d os
      have cH := fun (d : Nat) (os : Array Obj) => cell_regrown q1 d os
      have hA3 := Lib.hid (fun (d : Nat) (os : Array Obj) => HA2.out (Sort.grow (redrawn W d) os) q (below_from H4.below (below_regrown W d os)) H4.g1 H4.g2)
      generalize lat s ((l : Int) + d).toNat q = r at *
      refine wp_region_quiet_below (by kernel_rfl) (by kernel_rfl) ?_
      repeat (quiet_step (exact Calls.regrown_of (hA3.out _ _)))
      refine wpQuiet_nil ?_
      intro _ hw'
      obtain ⟨⟨dq, osq⟩, hw''⟩ := hw'
      subst hw''
      go_wp2
      go_ret2
      exact ⟨rfl, H4.via (below_regrown W dq osq), HM.trans (Mods.of_below (below_regrown W dq osq))⟩
    · have f3 : decide (goal < 0) = false := by simp; omega
      simp only [if_neg hgl]
      go_enter Tryz.func222, Tryz.ntmps222
      go_wp2_with fail
      refine (hO.out _ (Below.refl _ _)).mono ?_
      rintro x1 w1 ⟨rfl, hb1⟩
      have c1' := CX.out _ hb1
      go_wp2_with fail
      refine (hC.out _ hb1).mono ?_
      rintro x2 w2 ⟨rfl, hb2⟩
      have hB2 := below_from hb1 hb2
      have c2' := CX.out _ hB2
      have c3' := CY.out _ hB2
      go_wp2_with fail
      have H4 := H.out.via hB2
      have HM : Mods (fun x => x = g) w w2 := Mods.of_below hB2
      clear c1' c2' c3' hB2 hb1 hb2 HK CX CY hO hC
      have q0 : w2.cell? ⟨g, 0, none⟩ = some (.pointer p) := cell_of_block H4.blk 0
      have q1 : w2.cell? ⟨g, 1, none⟩ = some (.int .i64 goal) := cell_of_block H4.blk 1
      have cG := fun (d : Nat) (os : Array Obj) => cell_regrown q0 d os
      have cH := fun (d : Nat) (os : Array Obj) => cell_regrown q1 d os
      have hA3 := Lib.hid (fun (d : Nat) (os : Array Obj) => HA2.out (Sort.grow (redrawn w2 d) os) goal (below_from H4.below (below_regrown w2 d os)) H4.g1 H4.g2)
      generalize lat s ((l : Int) + d).toNat goal = r at *
      refine wp_region_quiet_below (by kernel_rfl) (by kernel_rfl) ?_
      repeat (quiet_step (exact Calls.regrown_of (hA3.out _ _)))
      refine wpQuiet_nil ?_
      intro _ hw'
      obtain ⟨⟨dq, osq⟩, hw''⟩ := hw'
      subst hw''
      go_wp2
      go_ret2
      exact ⟨rfl, H4.via (below_regrown w2 dq osq), HM.trans (Mods.of_below (below_regrown w2 dq osq))⟩
end Go.Proofs.YtmelgecjaonbbaaGreatDoor
namespace Go.Proofs.YtmelgecjaonbbaaGreatDoor
open Go.RowKit Go.Bod

set_option maxRecDepth 100000 in
theorem up_any {W0 w : World} {p : Option Addr} {s : ByteArray} {g : Nat} {goal : Int} (h : At W0 w p s g goal) (k : Nat) (hk : k ≤ s.size) :
    Calls Tryz.prog 193 #[.pointer (some ⟨g, 0, none⟩), .int .i64 k] w (StepPost W0 w p s g (overM s k (-1) goal)) := by
  have hO := Lib.hid (over_any h k hk (-1) (.inr rfl))
  clear h
  generalize overM s k (-1) goal = r at *
  go_enter Tryz.func193, Tryz.ntmps193
  go_wp2_with fail
  refine hO.out.mono ?_
  rintro x1 w1 ⟨rfl, h1, h2⟩
  have H1 := Lib.hid h1
  have H2 := Lib.hid h2
  clear h1 h2
  go_wp2
  go_ret2
  exact ⟨rfl, H1.out, H2.out⟩
set_option maxRecDepth 100000 in
theorem down_any {W0 w : World} {p : Option Addr} {s : ByteArray} {g : Nat} {goal : Int} (h : At W0 w p s g goal) (k : Nat) (hk : k ≤ s.size) :
    Calls Tryz.prog 194 #[.pointer (some ⟨g, 0, none⟩), .int .i64 k] w (StepPost W0 w p s g (overM s k 1 goal)) := by
  have hO := Lib.hid (over_any h k hk 1 (.inl rfl))
  clear h
  generalize overM s k 1 goal = r at *
  go_enter Tryz.func194, Tryz.ntmps194
  go_wp2_with fail
  refine hO.out.mono ?_
  rintro x1 w1 ⟨rfl, h1, h2⟩
  have H1 := Lib.hid h1
  have H2 := Lib.hid h2
  clear h1 h2
  go_wp2
  go_ret2
  exact ⟨rfl, H1.out, H2.out⟩

/-- A place as it counts. -/
def snapN (s : ByteArray) (i : Int) : Nat := csnap s (max i 0).toNat
theorem snapN_le (s : ByteArray) (i : Int) : snapN s i ≤ s.size := by
  unfold snapN csnap
  split
  · next h => exact cb_le h
  · exact cnext_le _ _
theorem snapped_any {w : World} {p : Option Addr} {s : ByteArray} (h : StoreOk w p s) (hT : Tabs w) (i : Int) (h1 : -9223372036854775808 ≤ i) (h2 : i ≤ 9223372036854775807) :
    Calls Tryz.prog 61 #[.pointer p, .int .i64 i] w fun e w' => e = .returned (.int .i64 (snapN s i)) ∧ Below w.heap.size w w' := by
  have hS := sSnap_any h hT (max i 0) (by omega) (by omega)
  rw [show isnap s (max i 0) = (snapN s i : Int) by unfold isnap snapN; rw [if_neg (by omega)]] at hS
  have HS := Lib.hid hS
  clear h hS
  generalize snapN s i = r at *
  go_enter Tryz.func61, Tryz.ntmps61
  go_wp2_with fail
  refine HS.out.mono ?_
  rintro x1 w1 ⟨rfl, hb1⟩
  go_wp2
  go_ret
  exact ⟨rfl, hb1⟩

/-- The motions' functions. -/
def motF : List Nat := [187, 188, 189, 190, 191, 192, 193, 194, 195, 196]
/-- The motions as they stand in memory. -/
def motC : Array Value := #[.int .i64 4, .func (.func 187) #[] #[], .int .i64 5, .func (.func 188) #[] #[], .int .i64 6, .func (.func 189) #[] #[], .int .i64 7, .func (.func 190) #[] #[], .int .i64 8, .func (.func 191) #[] #[],
  .int .i64 9, .func (.func 192) #[] #[], .int .i64 10, .func (.func 193) #[] #[], .int .i64 11, .func (.func 194) #[] #[], .int .i64 12, .func (.func 195) #[] #[], .int .i64 13, .func (.func 196) #[] #[]]
theorem motC_kind (i : Nat) (h : i < 10) : motC[2 * i]? = some (.int .i64 (4 + i)) := by
  match i, h with
  | 0, _ | 1, _ | 2, _ | 3, _ | 4, _ | 5, _ | 6, _ | 7, _ | 8, _ | 9, _ => rfl
theorem motC_step (i : Nat) (h : i < 10) : motC[2 * i + 1]? = some (.func (.func (motF.getD i 0)) #[] #[]) := by
  match i, h with
  | 0, _ | 1, _ | 2, _ | 3, _ | 4, _ | 5, _ | 6, _ | 7, _ | 8, _ | 9, _ => rfl
set_option maxRecDepth 100000 in
theorem motions_any (w : World) :
    Calls Tryz.prog 135 #[] w fun e w' => e = .returned (.slice (some ⟨w.heap.size, 0, none⟩) 10 10) ∧ w.alloc (.cells motC 112) = w' := by
  go_enter Tryz.func135, Tryz.ntmps135
  go_wp2
  go_ret
  exact ⟨rfl, rfl⟩
end Go.Proofs.YtmelgecjaonbbaaGreatDoor
namespace Go.Proofs.YtmelgecjaonbbaaGreatDoor
open Go.RowKit Go.Bod

/-- Between two rounds of find. -/
def FindRel (k : Int) (w : World) (v : Value) (wr : World) : Prop :=
  ∃ i : Nat, v = .int .i64 i ∧ i ≤ 10 ∧ (∀ j : Nat, j < i → (4 + j : Int) ≠ k) ∧ Below w.heap.size w wr ∧ wr.heap[w.heap.size]? = some (.cells #[.int .i64 0, .nilFunc] 112 (0, 0)) ∧ wr.heap[w.heap.size + 1]? = some (.cells motC 112 (0, 0))

set_option maxRecDepth 100000 in
theorem find_any (k : Int) (w : World) :
    Calls Tryz.prog 60 #[.int .i64 k] w fun e w' => e = .returned (.tuple (if 4 ≤ k ∧ k ≤ 13 then #[.agg #[.int .i64 k, .func (.func (motF.getD (k - 4).toNat 0)) #[] #[]], .bool true] else #[.agg #[.int .i64 0, .nilFunc], .bool false])) ∧ Below w.heap.size w w' := by
  have hM := Lib.hid (fun w => motions_any w)
  go_enter Tryz.func60, Tryz.ntmps60
  go_wp2_with fail
  refine (hM.out _).mono ?_
  rintro x1 w1 ⟨rfl, rfl⟩
  go_wp2_with fail
  go_loopw [8] (FindRel k w) (fun v _ => 10 - (RowKit.intOf v).toNat)
  case atStart => exact ⟨0, rfl, by omega, fun j h => by omega, below_alloc (below_alloc (Below.refl _ _) _) _, block_old _ (alloc_get _ _), by have := alloc_get (w.alloc (.cells #[.int .i64 0, .nilFunc] 112)) (.cells motC 112); simpa using this⟩
  case round =>
    obtain ⟨i, rfl, h1, h2, hB, hb0, hb1⟩ := hrel
    have H2 := Lib.hid h2
    clear h2
    have k0 := frozen_of_block hb0
    have z0 := block_lt hb0
    have z1 := block_lt hb1
    have d0 : wr.cell? ⟨w.heap.size, 0, none⟩ = some _ := cell_of_block hb0 0
    have d1 : wr.cell? ⟨w.heap.size, 1, none⟩ = some _ := cell_of_block hb0 1
    by_cases hi : i < 10
    · have c0 : wr.cell? ⟨w.heap.size + 1, i * 2, none⟩ = some (.int .i64 (4 + i)) := by rw [cell_of_block hb1, Nat.mul_comm]; exact motC_kind i hi
      have c1 : wr.cell? ⟨w.heap.size + 1, i * 2 + 1, none⟩ = some (.func (.func (motF.getD i 0)) #[] #[]) := by rw [cell_of_block hb1, Nat.mul_comm]; exact motC_step i hi
      by_cases hk : (4 + i : Int) = k
      · have hk' : ((4 + i : Int) == k) = true := by simp [hk]
        have hin : 4 ≤ k ∧ k ≤ 13 := by omega
        have hki : (k - 4).toNat = i := by omega
        obtain ⟨f, hf⟩ : ∃ f, f = motF.getD i 0 := ⟨_, rfl⟩
        rw [← hf] at c1
        have HF := Lib.hid hf
        clear hf
        go_wp2_with fail
        refine bodyPost_ret (v := .tuple #[.agg #[.int .i64 k, .func (.func f) #[] #[]], .bool true]) (by simp [results, Tryz.results60, go_sem, d0, d1, z0]) rfl ⟨?_, ?_⟩
        · rw [HF.out]; simp [List.getD_eq_getElem?_getD]
        · exact below_alloc ((hB.setCell (p := ⟨w.heap.size, 0, none⟩) (Nat.le_refl _) _).setCell (p := ⟨w.heap.size, 1, none⟩) (Nat.le_refl _) _) _
      · have hk' : ((4 + i : Int) == k) = false := by simp [hk]
        generalize motF.getD i 0 = f at *
        go_wp2
        go_roundw
        case rel => exact ⟨i + 1, rfl, by omega, fun j hj => by by_cases hji : j < i; exact H2.out j hji; rw [show j = i by omega]; exact hk, below_alloc hB _, block_old _ hb0, block_old _ hb1⟩
        case measure => simp [RowKit.intOf]; omega
    · have hout : ¬ (4 ≤ k ∧ k ≤ 13) := fun hc => H2.out (k - 4).toNat (by omega) (by omega)
      go_wp2
      refine bodyPost_ret (v := .tuple #[.agg #[.int .i64 0, .nilFunc], .bool false]) (by simp [results, Tryz.results60, go_sem, d0, d1, z0]) rfl ⟨rfl, ?_⟩
      exact (hB.setCell (p := ⟨w.heap.size, 0, none⟩) (Nat.le_refl _) _).setCell (p := ⟨w.heap.size, 1, none⟩) (Nat.le_refl _) _
end Go.Proofs.YtmelgecjaonbbaaGreatDoor
namespace Go.Proofs.YtmelgecjaonbbaaGreatDoor
open Go.RowKit Go.Bod

set_option maxRecDepth 100000 in
theorem Motion_any (k : Int) (w : World) :
    Calls Tryz.prog 58 #[.int .i64 k] w fun e w' => e = .returned (.bool (decide (4 ≤ k ∧ k ≤ 13))) ∧ Below w.heap.size w w' := by
  have hF := Lib.hid (find_any k w)
  by_cases hk : 4 ≤ k ∧ k ≤ 13
  · rw [decide_eq_true hk]
    go_enter Tryz.func58, Tryz.ntmps58
    go_wp2_with fail
    refine hF.out.mono ?_
    rintro x1 w1 ⟨rfl, hb1⟩
    rw [if_pos hk]
    go_wp2
    go_ret
    exact ⟨rfl, below_alloc hb1 _⟩
  · rw [decide_eq_false hk]
    go_enter Tryz.func58, Tryz.ntmps58
    go_wp2_with fail
    refine hF.out.mono ?_
    rintro x1 w1 ⟨rfl, hb1⟩
    rw [if_neg hk]
    go_wp2
    go_ret
    exact ⟨rfl, below_alloc hb1 _⟩

theorem motF_enters (i : Nat) (h : i < 10) : ∀ args w, (callFunc (motF.getD i 0) args).run Tryz.prog w = .ok (.enter (motF.getD i 0) args) w := by
  match i, h with
  | 0, _ => exact enters_of Tryz.func187 (by kernel_rfl) rfl
  | 1, _ => exact enters_of Tryz.func188 (by kernel_rfl) rfl
  | 2, _ => exact enters_of Tryz.func189 (by kernel_rfl) rfl
  | 3, _ => exact enters_of Tryz.func190 (by kernel_rfl) rfl
  | 4, _ => exact enters_of Tryz.func191 (by kernel_rfl) rfl
  | 5, _ => exact enters_of Tryz.func192 (by kernel_rfl) rfl
  | 6, _ => exact enters_of Tryz.func193 (by kernel_rfl) rfl
  | 7, _ => exact enters_of Tryz.func194 (by kernel_rfl) rfl
  | 8, _ => exact enters_of Tryz.func195 (by kernel_rfl) rfl
  | 9, _ => exact enters_of Tryz.func196 (by kernel_rfl) rfl
/-- The steps of a motion, done count times. -/
def goLoop (f : Nat → Int → Nat × Bool × Int) : Nat → Nat → Int → Int → Nat × Int × Int
  | 0, a, e, goal => (a, e, goal)
  | c + 1, a, e, goal => if (f a goal).2.1 then goLoop f c (f a goal).1 0 (f a goal).2.2 else (a, e, (f a goal).2.2)
/-- A step's contract. -/
def StepOk (p : Option Addr) (s : ByteArray) (k : Int) (f : Nat → Int → Nat × Bool × Int) : Prop :=
  ∀ (W0 w : World) (g : Nat) (goal : Int) (a : Nat), At W0 w p s g goal → a ≤ s.size →
    Calls Tryz.prog (motF.getD (k - 4).toNat 0) #[.pointer (some ⟨g, 0, none⟩), .int .i64 a] w (StepPost W0 w p s g (f a goal)) ∧ (f a goal).1 ≤ s.size
/-- What 'Go' answers to a motion. -/
def goM (f : Nat → Int → Nat × Bool × Int) (s : ByteArray) (k i goal count : Int) : Array Value :=
  let r := goLoop f (min (max count 1) 1000).toNat (snapN s i) 8 (max goal (-1))
  #[.int .i64 r.1, .int .i64 (if r.2.1 = 0 ∧ k ≠ 10 ∧ k ≠ 11 then -1 else r.2.2), .int .i64 r.2.1]

/-- Between two rounds of Go. -/
def GoRel (f : Nat → Int → Nat × Bool × Int) (s : ByteArray) (W0 : World) (p : Option Addr) (m fn : Nat) (k G : Int) (a0 c : Nat) (u v x : Value) (wr : World) : Prop :=
  ∃ (a j : Nat) (e goal : Int), u = .int .i64 a ∧ v = .int .i64 e ∧ x = .int .i64 j ∧ j ≤ c ∧ a ≤ s.size ∧ (e = 0 ∨ e = 8) ∧ goLoop f c a0 8 G = goLoop f (c - j) a e goal ∧
    At W0 wr p s (m + 1) goal ∧ wr.heap[m]? = some (.cells #[.int .i64 k, .func (.func fn) #[] #[]] 112 (0, 0))

set_option maxHeartbeats 1000000 in
set_option maxRecDepth 100000 in
theorem Go_any {w : World} {p : Option Addr} {s : ByteArray} (h : StoreOk w p s) (hT : Tabs w) (k : Int) (f : Nat → Int → Nat × Bool × Int) (hf : StepOk p s k f) (hk : 4 ≤ k ∧ k ≤ 13)
    (i goal count : Int) (hi1 : -9223372036854775808 ≤ i) (hi2 : i ≤ 9223372036854775807) (hg1 : -9223372036854775808 ≤ goal) (hg2 : goal ≤ 9223372036854775807) (hc1 : -9223372036854775808 ≤ count) (hc2 : count ≤ 9223372036854775807) :
    Calls Tryz.prog 15 #[.pointer p, .int .i64 k, .int .i64 i, .int .i64 goal, .int .i64 count] w fun e w' => e = .returned (.tuple (goM f s k i goal count)) ∧ Below w.heap.size w w' := by
  have hF := find_any k w
  rw [if_pos hk] at hF
  have HF := Lib.hid hF
  have hS := Lib.hid (fun (w1 : World) (hb : Below w.heap.size w w1) => snapped_any (h.below hb) (hT.of hb) i hi1 hi2)
  have HK := Lib.hid hf
  have H := Lib.hid h
  have hsn := snapN_le s i
  have hsz := h.size
  obtain ⟨fn, hfn⟩ : ∃ fn, fn = motF.getD (k - 4).toNat 0 := ⟨_, rfl⟩
  rw [← hfn] at HF
  have HN := Lib.hid hfn
  obtain ⟨c, hc⟩ : ∃ c : Nat, (c : Int) = min (max count 1) 1000 := ⟨(min (max count 1) 1000).toNat, by omega⟩
  obtain ⟨G, hG⟩ : ∃ G : Int, G = max goal (-1) := ⟨_, rfl⟩
  have hV : goM f s k i goal count = #[.int .i64 (goLoop f c (snapN s i) 8 G).1, .int .i64 (if (goLoop f c (snapN s i) 8 G).2.1 = 0 ∧ k ≠ 10 ∧ k ≠ 11 then -1 else (goLoop f c (snapN s i) 8 G).2.2), .int .i64 (goLoop f c (snapN s i) 8 G).2.1] := by
    unfold goM; rw [show (min (max count 1) 1000).toNat = c by omega, ← hG]
  have eg := motF_enters (k - 4).toNat (by omega)
  rw [← hfn] at eg
  generalize goM f s k i goal count = V at *
  generalize snapN s i = a0 at *
  have HV := Lib.hid hV
  clear hV
  clear h hF hf hfn
  go_enter Tryz.func15, Tryz.ntmps15
  go_wp2_with fail
  refine HF.out.mono ?_
  rintro x1 w1 ⟨rfl, hb1⟩
  go_wp2_with fail
  refine (hS.out _ (below_alloc (below_alloc hb1 _) _)).mono ?_
  rintro x2 w2 ⟨rfl, hb2⟩
  go_wp2_with fail
  have hB1a := below_alloc (below_alloc hb1 (.cells #[.int .i64 k, .func (.func fn) #[] #[]] 112)) (.cells #[.pointer p, .int .i64 (max goal (-1))] 117)
  have hB2 := below_from hB1a hb2
  have q1 : w2.heap[w1.heap.size]? = some (.cells #[.int .i64 k, .func (.func fn) #[] #[]] 112 (0, 0)) := block_via hb2 (block_old _ (alloc_get w1 _))
  have q2 : w2.heap[w1.heap.size + 1]? = some (.cells #[.pointer p, .int .i64 G] 117 (0, 0)) := block_via hb2 (by rw [hG]; have := alloc_get (w1.alloc (.cells #[.int .i64 k, .func (.func fn) #[] #[]] 112)) (.cells #[.pointer p, .int .i64 (max goal (-1))] 117); simpa using this)
  have z1 := hb1.size
  generalize w1.heap.size = m at *
  have HA0 : At w w2 p s (m + 1) G := ⟨H.out, hT, by omega, hB2, q2, by omega, by omega⟩
  clear hb1 hb2 hB1a
  go_loopw [2, 12, 37] (GoRel f s w p m fn k G a0 c) (fun _ _ x _ => c - (RowKit.intOf x).toNat)
  case atStart => exact ⟨a0, 0, 8, G, rfl, rfl, rfl, Nat.zero_le _, hsn, .inr rfl, rfl, HA0, q1⟩
  case round =>
    obtain ⟨a, j, e, gl, rfl, rfl, rfl, r1, r2, r3, r4, r5, r6⟩ := hrel
    have R4 := Lib.hid r4
    have HA := Lib.hid r5
    have z5 := block_lt r5.blk
    have k5 := frozen_of_block r5.blk
    have c5 : wr.cell? ⟨m + 1, 1, none⟩ = some (.int .i64 gl) := cell_of_block r5.blk 1
    have c6 : wr.cell? ⟨m, 1, none⟩ = some (.func (.func fn) #[] #[]) := cell_of_block r6 1
    have hst := HK.out w wr (m + 1) gl a r5 r2
    rw [← HN.out] at hst
    have HST := Lib.hid hst.1
    have hle := hst.2
    clear r4 r5 hst
    by_cases hj : j < c
    · have f1 : decide ((j : Int) < min (max count 1) 1000) = true := by simp; omega
      obtain ⟨d, hd⟩ : ∃ d, c - j = d + 1 := ⟨c - j - 1, by omega⟩
      have hgo : goLoop f (c - j) a e gl = if (f a gl).2.1 then goLoop f d (f a gl).1 0 (f a gl).2.2 else (a, e, (f a gl).2.2) := by rw [hd]; rfl
      have HG := Lib.hid hgo
      obtain ⟨a', dn, gl', hf'⟩ : ∃ a' dn gl', f a gl = (a', dn, gl') := ⟨_, _, _, rfl⟩
      rw [hf'] at HST HG hle
      clear hgo
      go_wp2_with fail
      refine HST.out.mono ?_
      rintro x5 wr2 ⟨rfl, h5, h6⟩
      have HA2 := Lib.hid h5
      have z5' := block_lt h5.blk
      have k5' := frozen_of_block h5.blk
      have c5' : wr2.cell? ⟨m + 1, 1, none⟩ = some (.int .i64 gl') := cell_of_block h5.blk 1
      have r6' : wr2.heap[m]? = some (.cells #[.int .i64 k, .func (.func fn) #[] #[]] 112 (0, 0)) := by rw [h6.block m (block_lt r6) (by omega)]; exact r6
      clear c5 k5 c6 r6 h5 h6
      cases dn
      · have hr : goLoop f c a0 8 G = (a, e, gl') := by rw [R4.out, HG.out]; rfl
        have HR := Lib.hid hr
        clear hr
        rcases (show (e ≠ 0) ∨ (e = 0 ∧ k = 10) ∨ (e = 0 ∧ k = 11) ∨ (e = 0 ∧ k ≠ 10 ∧ k ≠ 11) by omega) with t1 | ⟨t1, t2⟩ | ⟨t1, t2⟩ | ⟨t1, t2, t3⟩
        · have g1 : (e == 0) = false := by simpa using t1
          go_wp2_with fail
          go_quiet (fail)
          go_wp2_with fail
          refine bodyPost_ret (v := .tuple #[.int .i64 a, .int .i64 gl', .int .i64 e]) (by simp [results, Tryz.results15, go_sem]) rfl ⟨?_, ?_⟩
          · rw [HV.out, HR.out]; dsimp only; rw [if_neg (by omega)]
          · exact below_drewN HA2.out.below _
        · subst t1
          have g2 : (k == 10) = true := by simp [t2]
          have g3 : (k != 10) = false := by simp [t2]
          go_wp2_with fail
          go_quiet (fail)
          go_wp2_with fail
          refine bodyPost_ret (v := .tuple #[.int .i64 a, .int .i64 gl', .int .i64 0]) (by simp [results, Tryz.results15, go_sem]) rfl ⟨?_, ?_⟩
          · rw [HV.out, HR.out]; dsimp only; rw [if_neg (by omega)]
          · exact below_drewN HA2.out.below _
        · subst t1
          have g2 : (k == 11) = true := by simp [t2]
          have g3 : (k != 11) = false := by simp [t2]
          have g4 : (k == 10) = false := by simp [t2]
          have g5 : (k != 10) = true := by simp [t2]
          go_wp2_with fail
          go_quiet (fail)
          go_wp2_with fail
          refine bodyPost_ret (v := .tuple #[.int .i64 a, .int .i64 gl', .int .i64 0]) (by simp [results, Tryz.results15, go_sem]) rfl ⟨?_, ?_⟩
          · rw [HV.out, HR.out]; dsimp only; rw [if_neg (by omega)]
          · exact below_drewN HA2.out.below _
        · subst t1
          have g2 : (k == 11) = false := by simp [t3]
          have g3 : (k != 11) = true := by simp [t3]
          have g4 : (k == 10) = false := by simp [t2]
          have g5 : (k != 10) = true := by simp [t2]
          go_wp2_with fail
          have c9 : (wr2.setCell ⟨m + 1, 1, none⟩ (.int .i64 (-1))).cell? ⟨m + 1, 1, none⟩ = some (.int .i64 (-1)) := cell_of_block (set_block HA2.out.blk 1 (.int .i64 (-1))) 1
          have hB9 : Below w.heap.size w (wr2.setCell ⟨m + 1, 1, none⟩ (.int .i64 (-1))) := HA2.out.below.setCell (p := ⟨m + 1, 1, none⟩) HA2.out.new _
          clear c5' k5'
          generalize wr2.setCell ⟨m + 1, 1, none⟩ (.int .i64 (-1)) = W9 at *
          go_quiet (fail)
          go_wp2_with fail
          refine bodyPost_ret (v := .tuple #[.int .i64 a, .int .i64 (-1), .int .i64 0]) (by simp [results, Tryz.results15, go_sem]) rfl ⟨?_, ?_⟩
          · rw [HV.out, HR.out]; dsimp only; rw [if_pos (by omega)]
          · exact below_drewN hB9 _
      · go_wp2_with fail
        go_roundw
        case rel => exact ⟨a', j + 1, 0, gl', rfl, rfl, rfl, by omega, hle, .inl rfl, by rw [R4.out, HG.out, show c - (j + 1) = d by omega]; rfl, HA2.out, r6'⟩
        case measure => simp [RowKit.intOf]; omega
    · have f1 : decide ((j : Int) < min (max count 1) 1000) = false := by simp; omega
      have hr : goLoop f c a0 8 G = (a, e, gl) := by rw [R4.out, show c - j = 0 by omega]; rfl
      have HR := Lib.hid hr
      clear hr
      rcases (show (e ≠ 0) ∨ (e = 0 ∧ k = 10) ∨ (e = 0 ∧ k = 11) ∨ (e = 0 ∧ k ≠ 10 ∧ k ≠ 11) by omega) with t1 | ⟨t1, t2⟩ | ⟨t1, t2⟩ | ⟨t1, t2, t3⟩
      · have g1 : (e == 0) = false := by simpa using t1
        go_wp2_with fail
        go_quiet (fail)
        go_wp2_with fail
        refine bodyPost_ret (v := .tuple #[.int .i64 a, .int .i64 gl, .int .i64 e]) (by simp [results, Tryz.results15, go_sem]) rfl ⟨?_, ?_⟩
        · rw [HV.out, HR.out]; dsimp only; rw [if_neg (by omega)]
        · exact below_drewN HA.out.below _
      · subst t1
        have g2 : (k == 10) = true := by simp [t2]
        have g3 : (k != 10) = false := by simp [t2]
        go_wp2_with fail
        go_quiet (fail)
        go_wp2_with fail
        refine bodyPost_ret (v := .tuple #[.int .i64 a, .int .i64 gl, .int .i64 0]) (by simp [results, Tryz.results15, go_sem]) rfl ⟨?_, ?_⟩
        · rw [HV.out, HR.out]; dsimp only; rw [if_neg (by omega)]
        · exact below_drewN HA.out.below _
      · subst t1
        have g2 : (k == 11) = true := by simp [t2]
        have g3 : (k != 11) = false := by simp [t2]
        have g4 : (k == 10) = false := by simp [t2]
        have g5 : (k != 10) = true := by simp [t2]
        go_wp2_with fail
        go_quiet (fail)
        go_wp2_with fail
        refine bodyPost_ret (v := .tuple #[.int .i64 a, .int .i64 gl, .int .i64 0]) (by simp [results, Tryz.results15, go_sem]) rfl ⟨?_, ?_⟩
        · rw [HV.out, HR.out]; dsimp only; rw [if_neg (by omega)]
        · exact below_drewN HA.out.below _
      · subst t1
        have g2 : (k == 11) = false := by simp [t3]
        have g3 : (k != 11) = true := by simp [t3]
        have g4 : (k == 10) = false := by simp [t2]
        have g5 : (k != 10) = true := by simp [t2]
        go_wp2_with fail
        have c9 : (wr.setCell ⟨m + 1, 1, none⟩ (.int .i64 (-1))).cell? ⟨m + 1, 1, none⟩ = some (.int .i64 (-1)) := cell_of_block (set_block HA.out.blk 1 (.int .i64 (-1))) 1
        have hB9 : Below w.heap.size w (wr.setCell ⟨m + 1, 1, none⟩ (.int .i64 (-1))) := HA.out.below.setCell (p := ⟨m + 1, 1, none⟩) HA.out.new _
        clear c5 k5
        generalize wr.setCell ⟨m + 1, 1, none⟩ (.int .i64 (-1)) = W9 at *
        go_quiet (fail)
        go_wp2_with fail
        refine bodyPost_ret (v := .tuple #[.int .i64 a, .int .i64 (-1), .int .i64 0]) (by simp [results, Tryz.results15, go_sem]) rfl ⟨?_, ?_⟩
        · rw [HV.out, HR.out]; dsimp only; rw [if_pos (by omega)]
        · exact below_drewN hB9 _
end Go.Proofs.YtmelgecjaonbbaaGreatDoor
namespace Go.Proofs.YtmelgecjaonbbaaGreatDoor
open Go.RowKit Go.Bod

set_option maxRecDepth 100000 in
theorem mColumn_any {w : World} {p : Option Addr} {s : ByteArray} (h : StoreOk w p s) (hT : Tabs w) (i : Int) (hi1 : -9223372036854775808 ≤ i) (hi2 : i ≤ 9223372036854775807) :
    Calls Tryz.prog 16 #[.pointer p, .int .i64 i] w fun e w' => e = .returned (.int .i64 (lcol s (snapN s i))) ∧ Below w.heap.size w w' := by
  have hS := Lib.hid (snapped_any h hT i hi1 hi2)
  have hsn := snapN_le s i
  have hC : ∀ (w1 : World), Below w.heap.size w w1 → Calls Tryz.prog 62 #[.iface 23 (.pointer p), .int .i64 (snapN s i)] w1 fun e w' => e = .returned (.tuple #[.int .i64 (lcol s (snapN s i)), .int .i64 0]) ∧ Below w1.heap.size w1 w' :=
    fun w1 hb => Column_any (h.below hb) (hT.of hb) _ hsn
  have HC := Lib.hid hC
  clear h hC
  generalize lcol s (snapN s i) = r at *
  generalize snapN s i = q at *
  go_enter Tryz.func16, Tryz.ntmps16
  go_wp2_with fail
  refine hS.out.mono ?_
  rintro x1 w1 ⟨rfl, hb1⟩
  go_wp2_with fail
  refine (HC.out _ hb1).mono ?_
  rintro x2 w2 ⟨rfl, hb2⟩
  go_wp2
  go_ret
  exact ⟨rfl, below_from hb1 hb2⟩

/-- The place at a column of a line, at any numbers. -/
def placeM (s : ByteArray) (line col : Int) : Nat := lat s (min (max line 0) ((lcount s : Int) - 1)).toNat col
theorem lcount_pos (s : ByteArray) : 0 < lcount s := by unfold lcount; omega
set_option maxRecDepth 100000 in
theorem mPlace_any {w : World} {p : Option Addr} {s : ByteArray} (h : StoreOk w p s) (hT : Tabs w) (i col : Int) (hi1 : -9223372036854775808 ≤ i) (hi2 : i ≤ 9223372036854775807) (hc1 : -9223372036854775808 ≤ col) (hc2 : col ≤ 9223372036854775807) :
    Calls Tryz.prog 18 #[.pointer p, .int .i64 i, .int .i64 col] w fun e w' => e = .returned (.int .i64 (placeM s i col)) ∧ Below w.heap.size w w' := by
  have hsz := h.size
  have hlp := lcount_pos s
  have hlc : lcount s ≤ 4294967297 := by unfold lcount; have := nlq_le s s.size; omega
  have hN := Lib.hid (lCount_any h hT)
  have hA : ∀ (w1 : World), Below w.heap.size w w1 → Calls Tryz.prog 64 #[.iface 23 (.pointer p), .int .i64 (min (max i 0) ((lcount s : Int) - 1)), .int .i64 col] w1 fun e w' => e = .returned (.tuple #[.int .i64 (placeM s i col), .int .i64 0]) ∧ Below w1.heap.size w1 w' := by
    intro w1 hb
    have := At11_any (h.below hb) (hT.of hb) (min (max i 0) ((lcount s : Int) - 1)).toNat (by omega) col hc1 hc2
    rw [show (((min (max i 0) ((lcount s : Int) - 1)).toNat : Nat) : Int) = min (max i 0) ((lcount s : Int) - 1) by omega] at this
    refine this.mono ?_
    rintro e w' ⟨rfl, hb⟩
    exact ⟨by unfold placeM lat; rw [Int.natCast_add], hb⟩
  have HA := Lib.hid hA
  clear h hA
  generalize placeM s i col = r at *
  generalize lcount s = c at *
  go_enter Tryz.func18, Tryz.ntmps18
  go_wp2_with fail
  refine hN.out.mono ?_
  rintro x1 w1 ⟨rfl, hb1⟩
  go_wp2_with fail
  refine (HA.out _ hb1).mono ?_
  rintro x2 w2 ⟨rfl, hb2⟩
  go_wp2
  go_ret
  exact ⟨rfl, below_from hb1 hb2⟩

/-! The steps, kind by kind. -/
theorem step_left (p : Option Addr) (s : ByteArray) : StepOk p s 4 fun a goal => ((iprev s a).toNat, decide (0 < a), goal) := by
  intro W0 w g goal a h ha
  refine ⟨left_any h a ha, ?_⟩
  have h1 : iprev s a ≤ s.size := by
    unfold iprev
    split
    · omega
    · split
      · omega
      · next h1 h2 =>
        have hp := prevP_spec (cb s) a (by omega)
        have : cprev s a < a := hp.1
        simp only [Int.toNat_natCast]; omega
  dsimp only; omega
theorem step_right (p : Option Addr) (s : ByteArray) : StepOk p s 5 fun a goal => (cnext s a, decide (a < s.size), goal) :=
  fun W0 w g goal a h ha => ⟨right_any h a ha, cnext_le s a⟩
theorem step_start (p : Option Addr) (s : ByteArray) : StepOk p s 8 fun a goal => (lbeg s (nlq s a), true, goal) :=
  fun W0 w g goal a h ha => ⟨lineStart_any h a ha, (lbeg_least s _).1⟩
theorem step_end (p : Option Addr) (s : ByteArray) : StepOk p s 9 fun a goal => (lend s (nlq s a), true, goal) :=
  fun W0 w g goal a h ha => ⟨lineEnd_any h a ha, (lbeg_le_lend (nlq_lt' ha)).2⟩
theorem step_up (p : Option Addr) (s : ByteArray) : StepOk p s 10 fun a goal => overM s a (-1) goal :=
  fun W0 w g goal a h ha => ⟨up_any h a ha, overM_le ha _ _⟩
theorem step_down (p : Option Addr) (s : ByteArray) : StepOk p s 11 fun a goal => overM s a 1 goal :=
  fun W0 w g goal a h ha => ⟨down_any h a ha, overM_le ha _ _⟩
theorem step_first (p : Option Addr) (s : ByteArray) : StepOk p s 12 fun a goal => (0, true, goal) :=
  fun W0 w g goal a h ha => ⟨textStart_any h a, Nat.zero_le _⟩
theorem step_last (p : Option Addr) (s : ByteArray) : StepOk p s 13 fun a goal => (s.size, true, goal) :=
  fun W0 w g goal a h ha => ⟨textEnd_any h a, Nat.le_refl _⟩
end Go.Proofs.YtmelgecjaonbbaaGreatDoor
namespace Go.Proofs.YtmelgecjaonbbaaGreatDoor
open Go.RowKit Go.Bod

/-- A text is laid into a backend. -/
def KeptOk (bk : Int) (s : ByteArray) : Prop :=
  ∀ (lim : Int) (w : World), Tabs w → (s.size : Int) ≤ lim → lim ≤ 1073741824 →
    Calls Tryz.prog 134 #[.int .i64 bk, .int .i64 lim, .string s] w fun e w' => (∃ v F, e = .returned v ∧ TextOn F w' v s ∧ (∀ k, F k → w.heap.size ≤ k)) ∧ Below w.heap.size w w'

set_option maxRecDepth 100000 in
theorem kept_gap (s : ByteArray) : KeptOk 1 s := by
  intro lim w hT h1 h2
  have hN := gNew_any s w lim (by omega) (by omega) (by omega)
  have HN := Lib.hid hN
  clear hN
  have hsz : s.size ≤ 1073741824 := by omega
  go_enter Tryz.func134, Tryz.ntmps134
  go_wp2_with fail
  refine HN.out.mono ?_
  rintro e w1 ⟨rfl, hG, ht, hb⟩
  have hk := gap_keeps hG
  rw [ht] at hk
  have hK : TextOn (fun k => k = w.heap.size ∨ k = w.heap.size + 1) w1 (.iface 234 (.pointer (some ⟨w.heap.size, 0, none⟩))) s := ⟨by omega, _, .inl ⟨rfl, hk⟩⟩
  have HK := Lib.hid hK
  clear hK hk hG ht HN
  go_wp2
  go_ret
  exact ⟨⟨_, _, rfl, HK.out, fun k hk => by omega⟩, hb⟩
end Go.Proofs.YtmelgecjaonbbaaGreatDoor
namespace Go.Proofs.YtmelgecjaonbbaaGreatDoor
open Go.RowKit Go.Bod

/-- The backend of a new store. -/
def backOf (kind top : Int) (n : Nat) : Int := if kind = 1 ∨ kind = 2 then kind else if top ≤ n then 2 else 1
/-- The upper threshold as it counts. -/
def topOf (lo hi : Int) : Int := max hi (min (max lo 0) 1073741824 + 1)

theorem new_end {w w1 : World} {cs : Array Value} {v : Value} {s : ByteArray} {F : Nat → Prop} (hc : 0 < cs.size) (hb : Below (w.alloc (.cells cs 166)).heap.size (w.alloc (.cells cs 166)) w1) (hT : TextOn F w1 v s) (hF : ∀ k, F k → (w.alloc (.cells cs 166)).heap.size ≤ k) :
    StoreOk (w1.setCell ⟨w.heap.size, 0, none⟩ v) (some ⟨w.heap.size, 0, none⟩) s ∧ Below w.heap.size w (w1.setCell ⟨w.heap.size, 0, none⟩ v) := by
  have hg := block_via hb (alloc_get w _)
  refine ⟨⟨hT.1, .inr ⟨w.heap.size, _, v, rfl, set_block hg 0 v, ?_, F, hT.same fun k hk => set_other rfl (by have := hF k hk; simp at this; omega) 0 v⟩⟩, (below_of_alloc hb).setCell (p := ⟨w.heap.size, 0, none⟩) (Nat.le_refl _) v⟩
  simp [hc]

set_option maxHeartbeats 1000000 in
set_option maxRecDepth 100000 in
theorem sNew_any (kind lo hi lim : Int) (s : ByteArray) (w : World) (hT : Tabs w) (hlo1 : -9223372036854775808 ≤ lo) (hlo2 : lo ≤ 9223372036854775807) (hhi1 : -9223372036854775808 ≤ hi) (hhi2 : hi ≤ 9223372036854775807)
    (hlim1 : -9223372036854775808 ≤ lim) (hlim2 : lim ≤ 9223372036854775807) (hs : (s.size : Int) ≤ min (max lim 0) 1073741824) (hk : KeptOk (backOf kind (topOf lo hi) s.size) s) :
    Calls Tryz.prog 59 #[.int .i64 kind, .int .i64 lo, .int .i64 hi, .int .i64 lim, .string s] w fun e w' => e = .returned (.tuple #[.pointer (some ⟨w.heap.size, 0, none⟩), .int .i64 0]) ∧ StoreOk w' (some ⟨w.heap.size, 0, none⟩) s ∧ Below w.heap.size w w' := by
  have HK := Lib.hid hk
  have e1 : decide (min (max lim 0) 1073741824 < (s.size : Int)) = false := by simp; omega
  by_cases k1 : kind = 1
  · subst k1
    have hb : backOf 1 (topOf lo hi) s.size = 1 := rfl
    rw [hb] at HK
    clear hk hb
    go_enter Tryz.func59, Tryz.ntmps59
    go_wp2_with fail
    refine (HK.out _ _ (hT.alloc _) hs (by omega)).mono ?_
    rintro e w1 ⟨⟨v, F, rfl, hX, hF⟩, hb⟩
    have hE := Lib.hid (new_end (by simp) hb hX hF)
    have z := block_lt (block_via hb (alloc_get w _))
    have k0 := frozen_of_block (block_via hb (alloc_get w _))
    have d0 : w1.cell? ⟨w.heap.size, 0, none⟩ = some _ := cell_of_block (block_via hb (alloc_get w _)) 0
    obtain ⟨_, q, ⟨rfl, _⟩ | ⟨rfl, _⟩⟩ := hX
    all_goals
      clear hb hF
      go_wp2
      go_ret2
      exact ⟨rfl, hE.out⟩
  · have f1 : (kind == 1) = false := by simp [k1]
    have f1' : (kind != 1) = true := by simp [k1]
    by_cases k2 : kind = 2
    · subst k2
      have hb : backOf 2 (topOf lo hi) s.size = 2 := rfl
      rw [hb] at HK
      clear hk hb
      go_enter Tryz.func59, Tryz.ntmps59
      go_wp2_with fail
      refine (HK.out _ _ (hT.alloc _) hs (by omega)).mono ?_
      rintro e w1 ⟨⟨v, F, rfl, hX, hF⟩, hb⟩
      have hE := Lib.hid (new_end (by simp) hb hX hF)
      have z := block_lt (block_via hb (alloc_get w _))
      have k0 := frozen_of_block (block_via hb (alloc_get w _))
      have d0 : w1.cell? ⟨w.heap.size, 0, none⟩ = some _ := cell_of_block (block_via hb (alloc_get w _)) 0
      obtain ⟨_, q, ⟨rfl, _⟩ | ⟨rfl, _⟩⟩ := hX
      all_goals
        clear hb hF
        go_wp2
        go_ret2
        exact ⟨rfl, hE.out⟩
    · have f2 : (kind == 2) = false := by simp [k2]
      have f2' : (kind != 2) = true := by simp [k2]
      by_cases k3 : topOf lo hi ≤ s.size
      · have hb : backOf kind (topOf lo hi) s.size = 2 := by unfold backOf; rw [if_neg (by omega), if_pos k3]
        rw [hb] at HK
        unfold topOf at k3
        have f3 : decide (max hi (min (max lo 0) 1073741824 + 1) ≤ (s.size : Int)) = true := by simpa using k3
        clear hk hb
        go_enter Tryz.func59, Tryz.ntmps59
        go_wp2_with fail
        refine (HK.out _ _ (hT.alloc _) hs (by omega)).mono ?_
        rintro e w1 ⟨⟨v, F, rfl, hX, hF⟩, hb⟩
        have hE := Lib.hid (new_end (by simp) hb hX hF)
        have z := block_lt (block_via hb (alloc_get w _))
        have k0 := frozen_of_block (block_via hb (alloc_get w _))
        have d0 : w1.cell? ⟨w.heap.size, 0, none⟩ = some _ := cell_of_block (block_via hb (alloc_get w _)) 0
        obtain ⟨_, q, ⟨rfl, _⟩ | ⟨rfl, _⟩⟩ := hX
        all_goals
          clear hb hF
          go_wp2
          go_ret2
          exact ⟨rfl, hE.out⟩
      · have hb : backOf kind (topOf lo hi) s.size = 1 := by unfold backOf; rw [if_neg (by omega), if_neg k3]
        rw [hb] at HK
        unfold topOf at k3
        have f3 : decide (max hi (min (max lo 0) 1073741824 + 1) ≤ (s.size : Int)) = false := by simpa using k3
        clear hk hb
        go_enter Tryz.func59, Tryz.ntmps59
        go_wp2_with fail
        refine (HK.out _ _ (hT.alloc _) hs (by omega)).mono ?_
        rintro e w1 ⟨⟨v, F, rfl, hX, hF⟩, hb⟩
        have hE := Lib.hid (new_end (by simp) hb hX hF)
        have z := block_lt (block_via hb (alloc_get w _))
        have k0 := frozen_of_block (block_via hb (alloc_get w _))
        have d0 : w1.cell? ⟨w.heap.size, 0, none⟩ = some _ := cell_of_block (block_via hb (alloc_get w _)) 0
        obtain ⟨_, q, ⟨rfl, _⟩ | ⟨rfl, _⟩⟩ := hX
        all_goals
          clear hb hF
          go_wp2
          go_ret2
          exact ⟨rfl, hE.out⟩
end Go.Proofs.YtmelgecjaonbbaaGreatDoor
namespace Go.Proofs.YtmelgecjaonbbaaGreatDoor
open Go.RowKit Go.Bod

set_option maxRecDepth 100000 in
theorem laid_any (k : Int) (s : ByteArray) (w : World) (hT : Tabs w) (hk1 : 0 ≤ k) (hk2 : k ≤ 255) (hs : s.size ≤ 1073741824) (hk : KeptOk (backOf (k % 4) (topOf k (k + 8)) s.size) s) :
    Calls Tryz.prog 14 #[.int .u8 k, .string s] w fun e w' => e = .returned (.pointer (some ⟨w.heap.size, 0, none⟩)) ∧ StoreOk w' (some ⟨w.heap.size, 0, none⟩) s ∧ Below w.heap.size w w' := by
  have HN := Lib.hid (sNew_any (k % 4) k (k + 8) 1073741824 s w hT (by omega) (by omega) (by omega) (by omega) (by omega) (by omega) (by omega) hk)
  clear hk
  go_enter Tryz.func14, Tryz.ntmps14
  go_wp2_with fail
  refine HN.out.mono ?_
  rintro e w1 ⟨rfl, hS, hb⟩
  have HS := Lib.hid hS
  clear hS
  go_wp2
  go_ret
  exact ⟨rfl, HS.out, hb⟩

/-- The document's text. -/
def exT : ByteArray := ⟨#[97, 98, 10, 228, 184, 128, 99, 10, 100]⟩
/-- What 'goes' asks. -/
structure Ex : Prop where
  nx : cnext ⟨#[97]⟩ 0 = 1
  d1 : goM (fun a goal => overM exT a 1 goal) exT 11 1 (-1) 1 = #[.int .i64 3, .int .i64 1, .int .i64 0]
  d9 : goM (fun a goal => overM exT a 1 goal) exT 11 9 (-1) 1 = #[.int .i64 9, .int .i64 (-1), .int .i64 8]
  c7 : lcol exT (snapN exT 7) = 3

set_option maxHeartbeats 1000000 in
set_option maxRecDepth 100000 in
theorem goes_any (X : Ex) (w : World) (hT : Tabs w) :
    Calls Tryz.prog 13 #[] w fun e w' => e = .returned (.bool true) ∧ Below w.heap.size w w' := by
  have h1 := cNext_any ⟨#[97]⟩ 0 w (by omega) (by omega) (by decide) hT
  rw [show ((0 : Int).toNat) = 0 from rfl, X.nx] at h1
  have H1 := Lib.hid h1
  have hL := Lib.hid (fun (w1 : World) (hb : Below w.heap.size w w1) => laid_any 1 exT w1 (hT.of hb) (by omega) (by omega) (by decide) (kept_gap exT))
  have hG := fun (w1 : World) (p : Option Addr) (hb : Below w.heap.size w w1) (hS : StoreOk w1 p exT) => Go_any hS (hT.of hb) 11 _ (step_down p exT) (by omega) 1 (-1) 1 (by omega) (by omega) (by omega) (by omega) (by omega) (by omega)
  have hG9 := fun (w1 : World) (p : Option Addr) (hb : Below w.heap.size w w1) (hS : StoreOk w1 p exT) => Go_any hS (hT.of hb) 11 _ (step_down p exT) (by omega) 9 (-1) 1 (by omega) (by omega) (by omega) (by omega) (by omega) (by omega)
  simp only [X.d1] at hG
  simp only [X.d9] at hG9
  have hC := fun (w1 : World) (p : Option Addr) (hb : Below w.heap.size w w1) (hS : StoreOk w1 p exT) => mColumn_any hS (hT.of hb) 7 (by omega) (by omega)
  simp only [X.c7] at hC
  have HG := Lib.hid hG
  have HG9 := Lib.hid hG9
  have HC := Lib.hid hC
  have hM1 := Lib.hid (fun (w1 : World) => Motion_any 10 w1)
  have hM2 := Lib.hid (fun (w1 : World) => Motion_any 32 w1)
  clear h1 hG hG9 hC
  have hx : exT = ⟨#[97, 98, 10, 228, 184, 128, 99, 10, 100]⟩ := rfl
  rw [← hx] at *
  clear hx
  go_enter Tryz.func13, Tryz.ntmps13
  go_wp2_with fail
  refine H1.out.mono ?_
  rintro e w1 ⟨rfl, hb1⟩
  go_wp2_with fail
  refine (hL.out _ hb1).mono ?_
  rintro e w2 ⟨rfl, hS2, hb2⟩
  have hB2 := below_from hb1 hb2
  generalize w1.heap.size = g at *
  have HS2 := Lib.hid hS2
  go_wp2_with fail
  refine (HG.out _ _ hB2 HS2.out).mono ?_
  rintro e w3 ⟨rfl, hb3⟩
  have hB3 := below_from hB2 hb3
  go_wp2_with fail
  refine (HG9.out _ _ hB3 (HS2.out.below hb3)).mono ?_
  rintro e w4 ⟨rfl, hb4⟩
  have hB4 := below_from hB3 hb4
  go_wp2_with fail
  refine (HC.out _ _ hB4 (HS2.out.below (below_from hb3 hb4))).mono ?_
  rintro e w5 ⟨rfl, hb5⟩
  have hB5 := below_from hB4 hb5
  go_wp2_with fail
  refine (hM1.out _).mono ?_
  rintro e w6 ⟨rfl, hb6⟩
  have hB6 := below_from hB5 hb6
  go_wp2_with fail
  refine (hM2.out _).mono ?_
  rintro e w7 ⟨rfl, hb7⟩
  have hB7 := below_from hB6 hb7
  go_wp2
  go_ret
  exact ⟨rfl, hB7⟩
end Go.Proofs.YtmelgecjaonbbaaGreatDoor
namespace Go.Proofs.YtmelgecjaonbbaaGreatDoor
open Go.RowKit Go.Bod
theorem ex1 : cnext ⟨#[97]⟩ 0 = 1 := by decide +kernel
theorem ex2 : snapN exT 7 = 7 := by decide +kernel
theorem ex3 : lcol exT 7 = 3 := by decide +kernel
theorem ex4 : goLoop (fun a goal => overM exT a 1 goal) 1 (snapN exT 1) 8 (-1) = (3, 0, 1) := by decide +kernel
theorem ex5 : goLoop (fun a goal => overM exT a 1 goal) 1 (snapN exT 9) 8 (-1) = (9, 8, -1) := by decide +kernel
theorem theEx : Ex := by
  refine ⟨ex1, ?_, ?_, by rw [ex2]; exact ex3⟩
  · unfold goM
    rw [show (min (max (1 : Int) 1) 1000).toNat = 1 from rfl, show max (-1 : Int) (-1) = -1 from rfl, ex4]
    rfl
  · unfold goM
    rw [show (min (max (1 : Int) 1) 1000).toNat = 1 from rfl, show max (-1 : Int) (-1) = -1 from rfl, ex5]
    rfl
end Go.Proofs.YtmelgecjaonbbaaGreatDoor
namespace Go.Proofs.YtmelgecjaonbbaaGreatDoor
open Go.RowKit Go.Bod
attribute [local go_sem] Oper.semAt_some

theorem clist_empty : clist ⟨#[]⟩ = [] := cfrom_ge (Nat.le_refl _)

set_option maxRecDepth 100000 in
theorem Spans0_in (n : Nat) (w : World) (hT : Tabs w) :
    CallsIn Fence.wide (n + 3) Tryz.prog 246 #[.string ⟨#[]⟩] w fun e w' => e = .returned (.slice none 0 0) ∧ Below w.heap.size w w' := by
  refine callsIn_of_wp_marks Tryz.func246 rfl trivial ?_ rfl
  simp only [Tryz.ntmps246, List.size_toArray, List.length_cons, List.length_nil, Nat.reduceAdd, Nat.reduceSub, Array.replicate_succ, Array.replicate_zero, List.push_toArray, List.append_toArray, List.nil_append, List.cons_append]
  gi_wp2_with fail
  refine ⟨trivial, ?_⟩
  refine (callsIn_wide.2 (Walk_any ⟨#[]⟩ _)).mono ?_
  rintro x4 w4 ⟨rfl, rfl⟩
  gi_wp2_with fail
  have ht1 := hT.lt.2
  have hit := Walk1_stops (n + 2) ⟨#[]⟩ (w.heap.size + 1 + 1 + 1) w.heap.size ((((w.alloc (.cells #[.string ⟨#[]⟩] 9)).alloc (.cells #[.slice none 0 0] 249)).alloc (.cells #[.bool false] 4)).alloc (.cells #[.string ⟨#[]⟩] 9)) (by decide) ((((hT.alloc _).alloc _).alloc _).alloc _) ht1 (by simp; omega) (by have := cell_of_block (alloc_get (((w.alloc (.cells #[.string ⟨#[]⟩] 9)).alloc (.cells #[.slice none 0 0] 249)).alloc (.cells #[.bool false] 4)) (.cells #[.string ⟨#[]⟩] 9)) 0; simpa using this)
  refine wpIn_rangeFunc_ownH (α := Clu ⟨#[]⟩) (n := n + 3) rfl (by omega) (encs := cvals ⟨#[]⟩) (Kp := KeepB w.heap.size (w.heap.size + 1 + 1 + 1)) (gf := 139) (lb := #[.pointer (some ⟨w.heap.size + 1 + 1 + 1, 0, none⟩)]) rfl trivial (enters_of Tryz.func139 (by kernel_rfl) rfl)
    hit KeepB.trans (KeepB.put (by simp; omega) (by simp)) (Below.refl _ _) (fun _ => rfl)
    (fun _ W => W.heap[w.heap.size + 1]? = some (.cells #[.slice none 0 0] 249 (0, 0)) ∧ Below w.heap.size w W) (fun _ _ _ => False) ?hI (fun _ => own_false _) ?h0
    (fun _ _ _ => False) (fun _ _ => own_false _) ?hassign ?hbody ?hdone ?hstop
  case hI => exact OwnFrom.and (own_block _ _ (fun _ : List (Clu ⟨#[]⟩) => #[.slice none 0 0]) 249 (0, 0)) (ownFrom_below (Nat.le_refl _) (by simp; omega))
  case h0 =>
    refine ⟨block_old _ (block_old _ ?_), below_alloc (below_alloc (below_alloc (below_alloc (Below.refl _ _) _) _) _) _⟩
    have := alloc_get (w.alloc (.cells #[.string ⟨#[]⟩] 9)) (.cells #[.slice none 0 0] 249)
    simpa using this
  case hassign =>
    intro l pre x
    exact absurd (clist_empty ▸ x.2 : x.1 ∈ []) (by simp)
  case hbody =>
    intro l pre x a' W h1 h2 h3 h4
    exact h4.elim
  case hdone =>
    rintro D ys W hD hy ⟨hb, hB⟩ hK
    have hc : W.cell? ⟨w.heap.size + 1, 0, none⟩ = some (.slice none 0 0) := cell_of_block hb 0
    clear hy
    gi_wp2
    refine ⟨by simp, .inl ⟨_, _, rfl, run_takeDeferred hK, ?_⟩⟩
    exact ⟨_, results_tmp (t := 2) rfl _ _ _, rfl, hB.trans (belowK_b (w := w) (Nat.le_refl _) W D _ _ (by simp at hD; omega) hK rfl rfl)⟩
  case hstop =>
    intro D c pre W _ _ h _
    exact h.elim
theorem Spans0_any (w : World) (hT : Tabs w) : Calls Tryz.prog 246 #[.string ⟨#[]⟩] w fun e w' => e = .returned (.slice none 0 0) ∧ Below w.heap.size w w' := callsIn_wide.1 (Spans0_in 0 w hT)

/-- A loop of no rounds. -/
def ZeroRel (w : World) (v : Value) (wr : World) : Prop := v = .int .i64 0 ∧ Below w.heap.size w wr
def ZeroRel2 (w : World) (u v : Value) (wr : World) : Prop := u = .int .i64 0 ∧ v = .int .i64 0 ∧ Below w.heap.size w wr
theorem Behind0_any (i : Int) (w : World) (hT : Tabs w) (h1 : -9223372036854775808 ≤ i) (h2 : i ≤ 9223372036854775807) :
    Calls Tryz.prog 219 #[.string ⟨#[]⟩, .int .i64 i] w fun e w' => e = .returned (.int .i64 0) ∧ Below w.heap.size w w' := by
  have hS := Lib.hid (Spans0_any w hT)
  go_enter Tryz.func219, Tryz.ntmps219
  go_wp2_with fail
  refine hS.out.mono ?_
  rintro e w1 ⟨rfl, hb1⟩
  go_wp2_with fail
  go_loopw [5, 16] (ZeroRel2 w) (fun _ _ _ => 0)
  case atStart => exact ⟨rfl, rfl, hb1⟩
  case round =>
    obtain ⟨rfl, rfl, hB⟩ := hrel
    go_wp2
    go_ret
    exact ⟨rfl, hB⟩
theorem Ahead0_any (i : Int) (w : World) (hT : Tabs w) (h1 : -9223372036854775808 ≤ i) (h2 : i ≤ 9223372036854775807) :
    Calls Tryz.prog 220 #[.string ⟨#[]⟩, .int .i64 i] w fun e w' => e = .returned (.int .i64 0) ∧ Below w.heap.size w w' := by
  have hS := Lib.hid (Spans0_any w hT)
  go_enter Tryz.func220, Tryz.ntmps220
  go_wp2_with fail
  refine hS.out.mono ?_
  rintro e w1 ⟨rfl, hb1⟩
  go_wp2_with fail
  go_loopw [15] (ZeroRel w) (fun _ _ => 0)
  case atStart => exact ⟨rfl, hb1⟩
  case round =>
    obtain ⟨rfl, hB⟩ := hrel
    go_wp2
    go_ret
    exact ⟨rfl, hB⟩
end Go.Proofs.YtmelgecjaonbbaaGreatDoor
namespace Go.Proofs.YtmelgecjaonbbaaGreatDoor
open Go.RowKit Go.Bod

set_option maxRecDepth 100000 in
theorem wordLeft0_any {W0 w : World} {p : Option Addr} {g : Nat} {goal : Int} (h : At W0 w p ⟨#[]⟩ g goal) :
    Calls Tryz.prog 189 #[.pointer (some ⟨g, 0, none⟩), .int .i64 0] w (StepPost W0 w p ⟨#[]⟩ g (0, false, goal)) := by
  have hX := Lib.hid (sText_any h.st)
  have hW := Lib.hid (fun (w1 : World) (hb : Below w.heap.size w w1) => Behind0_any 0 w1 (h.tb.of hb) (by omega) (by omega))
  have c0 : w.cell? ⟨g, 0, none⟩ = some (.pointer p) := cell_of_block h.blk 0
  have H := Lib.hid h
  clear h
  go_enter Tryz.func189, Tryz.ntmps189
  go_wp2_with fail
  refine hX.out.mono ?_
  rintro x1 w1 ⟨rfl, hb1⟩
  go_wp2_with fail
  refine (hW.out _ hb1).mono ?_
  rintro x2 w2 ⟨rfl, hb2⟩
  have hB := below_from hb1 hb2
  go_wp2
  go_ret2
  exact ⟨rfl, H.out.via hB, Mods.of_below hB⟩
set_option maxRecDepth 100000 in
theorem wordRight0_any {W0 w : World} {p : Option Addr} {g : Nat} {goal : Int} (h : At W0 w p ⟨#[]⟩ g goal) :
    Calls Tryz.prog 190 #[.pointer (some ⟨g, 0, none⟩), .int .i64 0] w (StepPost W0 w p ⟨#[]⟩ g (0, false, goal)) := by
  have hX := Lib.hid (fun (d : Nat) (os : Array Obj) => sText_any (h.st.below (below_regrown w d os)))
  have hW := Lib.hid (fun (d : Nat) (os : Array Obj) => Ahead0_any 0 _ (h.tb.of (below_regrown w d os)) (by omega) (by omega))
  have hL := Lib.hid (fun (d : Nat) (os : Array Obj) => sLen_any (h.st.below (below_regrown w d os)))
  have c0 : w.cell? ⟨g, 0, none⟩ = some (.pointer p) := cell_of_block h.blk 0
  have cG := fun (d : Nat) (os : Array Obj) => cell_regrown c0 d os
  have H := Lib.hid h
  clear h
  go_enter Tryz.func190, Tryz.ntmps190
  go_wp2_with fail
  refine wp_region_quiet_below (by kernel_rfl) (by kernel_rfl) ?_
  repeat (quiet_step (first | exact Calls.regrown_of (hX.out _ _) | exact Calls.regrown_of (hW.out _ _) | exact Calls.regrown_of (hL.out _ _)))
  refine wpQuiet_nil ?_
  intro _ hw'
  obtain ⟨⟨dq, osq⟩, hw''⟩ := hw'
  subst hw''
  go_wp2
  go_ret2
  exact ⟨rfl, H.out.via (below_regrown w dq osq), Mods.of_below (below_regrown w dq osq)⟩
theorem step_wl0 (p : Option Addr) : StepOk p ⟨#[]⟩ 6 fun a goal => (0, false, goal) := by
  intro W0 w g goal a h ha
  obtain rfl : a = 0 := Nat.le_zero.1 ha
  exact ⟨wordLeft0_any h, Nat.zero_le _⟩
theorem step_wr0 (p : Option Addr) : StepOk p ⟨#[]⟩ 7 fun a goal => (0, false, goal) := by
  intro W0 w g goal a h ha
  obtain rfl : a = 0 := Nat.le_zero.1 ha
  exact ⟨wordRight0_any h, Nat.zero_le _⟩
end Go.Proofs.YtmelgecjaonbbaaGreatDoor
namespace Go.Proofs.YtmelgecjaonbbaaGreatDoor
open Go.RowKit Go.Bod

set_option maxRecDepth 100000 in
theorem Go_none (w : World) (p : Option Addr) (k : Int) (hk : ¬ (4 ≤ k ∧ k ≤ 13)) (i goal count : Int) :
    Calls Tryz.prog 15 #[.pointer p, .int .i64 k, .int .i64 i, .int .i64 goal, .int .i64 count] w fun e w' => e = .returned (.tuple #[.int .i64 0, .int .i64 (-1), .int .i64 13]) ∧ Below w.heap.size w w' := by
  have hF := find_any k w
  rw [if_neg hk] at hF
  have HF := Lib.hid hF
  clear hF
  go_enter Tryz.func15, Tryz.ntmps15
  go_wp2_with fail
  refine HF.out.mono ?_
  rintro x1 w1 ⟨rfl, hb1⟩
  go_wp2_with fail
  refine bodyPost_ret (v := .tuple #[.int .i64 0, .int .i64 (-1), .int .i64 13]) (by simp [results, Tryz.results15, go_sem]) rfl ⟨rfl, below_alloc hb1 _⟩


set_option maxRecDepth 100000 in
theorem mSpan_any {w : World} {p : Option Addr} {s : ByteArray} (h : StoreOk w p s) (hT : Tabs w) (k i count : Int) (t nx e : Int) (hi1 : -9223372036854775808 ≤ i) (hi2 : i ≤ 9223372036854775807)
    (hG : ∀ w1, Below w.heap.size w w1 → Calls Tryz.prog 15 #[.pointer p, .int .i64 k, .int .i64 i, .int .i64 (-1), .int .i64 count] w1 fun x w' => x = .returned (.tuple #[.int .i64 t, .int .i64 nx, .int .i64 e]) ∧ Below w1.heap.size w1 w') :
    Calls Tryz.prog 21 #[.pointer p, .int .i64 k, .int .i64 i, .int .i64 count] w fun x w' => x = .returned (.tuple (if e = 0 then #[.agg #[.int .i64 (min (snapN s i) t), .int .i64 (max (snapN s i) t)], .int .i64 0] else #[.agg #[.int .i64 0, .int .i64 0], .int .i64 e])) ∧ Below w.heap.size w w' := by
  have HG := Lib.hid hG
  have hS := Lib.hid (fun (w1 : World) (hb : Below w.heap.size w w1) => snapped_any (h.below hb) (hT.of hb) i hi1 hi2)
  clear h hG
  generalize snapN s i = q at *
  by_cases he : e = 0
  · subst he
    rw [if_pos rfl]
    go_enter Tryz.func21, Tryz.ntmps21
    go_wp2_with fail
    refine (HG.out _ (below_alloc (Below.refl _ _) _)).mono ?_
    rintro x1 w1 ⟨rfl, hb1⟩
    have hB1 := below_of_alloc hb1
    go_wp2_with fail
    refine (hS.out _ hB1).mono ?_
    rintro x2 w2 ⟨rfl, hb2⟩
    have hB2 := below_from hB1 hb2
    have hg := block_via hb2 (block_via hb1 (alloc_get w _))
    have hn := block_lt hg
    have k0 := frozen_of_block hg
    have d0 : w2.cell? ⟨w.heap.size, 0, none⟩ = some _ := cell_of_block hg 0
    have d1 : w2.cell? ⟨w.heap.size, 1, none⟩ = some _ := cell_of_block hg 1
    clear hb1 hb2
    go_wp2_with fail
    refine bodyPost_ret (v := .tuple #[.agg #[.int .i64 (min q t), .int .i64 (max q t)], .int .i64 0]) (by simp [results, Tryz.results21, go_sem, d0, d1, hn]) rfl ⟨rfl, ?_⟩
    exact (hB2.setCell (p := ⟨w.heap.size, 0, none⟩) (Nat.le_refl _) _).setCell (p := ⟨w.heap.size, 1, none⟩) (Nat.le_refl _) _
  · have f1 : (e != 0) = true := by simp [he]
    rw [if_neg he]
    go_enter Tryz.func21, Tryz.ntmps21
    go_wp2_with fail
    refine (HG.out _ (below_alloc (Below.refl _ _) _)).mono ?_
    rintro x1 w1 ⟨rfl, hb1⟩
    have hB1 := below_of_alloc hb1
    have hg := block_via hb1 (alloc_get w _)
    have hn := block_lt hg
    have k0 := frozen_of_block hg
    have d0 : w1.cell? ⟨w.heap.size, 0, none⟩ = some _ := cell_of_block hg 0
    have d1 : w1.cell? ⟨w.heap.size, 1, none⟩ = some _ := cell_of_block hg 1
    clear hb1
    go_wp2_with fail
    refine bodyPost_ret (v := .tuple #[.agg #[.int .i64 0, .int .i64 0], .int .i64 e]) (by simp [results, Tryz.results21, go_sem, d0, d1, hn]) rfl ⟨rfl, ?_⟩
    exact (hB1.setCell (p := ⟨w.heap.size, 0, none⟩) (Nat.le_refl _) _).setCell (p := ⟨w.heap.size, 1, none⟩) (Nat.le_refl _) _
end Go.Proofs.YtmelgecjaonbbaaGreatDoor
namespace Go.Proofs.YtmelgecjaonbbaaGreatDoor
open Go.RowKit Go.Bod

theorem Units0_any (w : World) : Calls Tryz.prog 203 #[.string ⟨#[]⟩] w fun e w' => e = .returned (.slice none 0 0) ∧ Below w.heap.size w w' := by
  go_enter Tryz.func203, Tryz.ntmps203
  go_wp2_with fail
  go_loopw [3, 4] (fun u v wr => u = .slice none 0 0 ∧ v = .int .i64 0 ∧ Below w.heap.size w wr) (fun _ _ _ => 0)
  case atStart => exact ⟨rfl, rfl, Below.refl _ _⟩
  case round =>
    obtain ⟨rfl, rfl, hB⟩ := hrel
    go_wp2
    go_ret
    exact ⟨rfl, hB⟩
theorem List0_any (w : World) : Calls Tryz.prog 148 #[.string ⟨#[]⟩] w fun e w' => e = .returned (.slice none 0 0) ∧ Below w.heap.size w w' := by
  have hU := Lib.hid (fun w => Units0_any w)
  go_enter Tryz.func148, Tryz.ntmps148
  go_wp2_with fail
  refine (hU.out _).mono ?_
  rintro e w1 ⟨rfl, hb1⟩
  go_wp2_with fail
  go_loopw [3, 6] (fun u v wr => u = .slice none 0 0 ∧ v = .int .i64 0 ∧ Below w.heap.size w wr) (fun _ _ _ => 0)
  case atStart => exact ⟨rfl, rfl, hb1⟩
  case round =>
    obtain ⟨rfl, rfl, hB⟩ := hrel
    go_wp2
    go_ret
    exact ⟨rfl, hB⟩
/-- The one boundary of the empty text, in new memory. -/
def OneCell (w w' : World) (t : TypeId) (cs : Array Value) (p : Nat) : Prop := w.heap.size ≤ p ∧ w'.heap[p]? = some (.cells cs t (0, 0)) ∧ Below w.heap.size w w'
theorem Bounds0_any (w : World) : Calls Tryz.prog 101 #[.string ⟨#[]⟩] w fun e w' => ∃ p, e = .returned (.slice (some ⟨p, 0, none⟩) 1 1) ∧ OneCell w w' 3 #[.int .i64 0] p := by
  have hU := Lib.hid (fun w => List0_any w)
  go_enter Tryz.func101, Tryz.ntmps101
  go_wp2_with fail
  refine (hU.out _).mono ?_
  rintro e w1 ⟨rfl, hb1⟩
  go_wp2_with fail
  go_loopw [3, 5] (fun u v wr => u = .slice (some ⟨w.heap.size, 0, none⟩) 1 1 ∧ v = .int .i64 0 ∧ OneCell w wr 3 #[.int .i64 0] w.heap.size) (fun _ _ _ => 0)
  case atStart => exact ⟨rfl, rfl, Nat.le_refl _, block_via hb1 (alloc_get w _), below_of_alloc hb1⟩
  case round =>
    obtain ⟨rfl, rfl, hB⟩ := hrel
    go_wp2
    go_ret
    exact ⟨_, rfl, hB⟩
end Go.Proofs.YtmelgecjaonbbaaGreatDoor
