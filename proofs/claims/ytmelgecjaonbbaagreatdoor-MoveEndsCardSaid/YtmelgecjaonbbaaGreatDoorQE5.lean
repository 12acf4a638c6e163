/- Small words on appends: the new cells, the cells of a row that the call owns; The document's functions at the empty text: boundaries, words, lines; The document's motions at the empty text; The program's motions over a nil store; both spans; The law MoveEnds: its walk. -/
import Derived.Test.YtmelgecjaonbbaaGreatDoorQE4
import Derived.Laws.AppendOwn
import Derived.Maps.AppendAt
set_option linter.unusedSimpArgs false
set_option linter.unusedVariables false
namespace Go.Bod
open Go.RowKit
theorem cells_new (w : World) (xs : List Value) (t : TypeId) : ∀ j u, xs[j]? = some u → (w.alloc (.cells xs.toArray t)).cell? ((⟨w.heap.size, 0, none⟩ : Addr).add j) = some u := by
  intro j u hu
  have : ((⟨w.heap.size, 0, none⟩ : Addr).add j) = ⟨w.heap.size, j, none⟩ := by unfold Addr.add; split <;> simp_all
  rw [this, cell_of_block (alloc_get w _)]
  simpa using hu
theorem row_cell {w : World} {base : Nat} {e : TypeId} {size g n c : Nat} {xs : List Value} (h : w.ownsRow base e size (.slice (some ⟨g, 0, none⟩) n c) n xs) (j : Nat) (u : Value) (hu : xs[j]? = some u) : w.cell? ⟨g, j, none⟩ = some u := by
  have := h.cells (g := g) rfl j u hu
  have e : ((⟨g, 0, none⟩ : Addr).add j) = ⟨g, j, none⟩ := by unfold Addr.add; split <;> simp_all
  rwa [e] at this
/-- What an append onto an own row leaves: nothing that was there is touched, but for the row. -/
theorem below_grown {W w w' : World} {row : Option Nat} (h : Below W.heap.size W w) (hg : w.grownBy w' row) (hr : ∀ g, row = some g → W.heap.size ≤ g) : Below W.heap.size W w' :=
  ⟨hg.os.trans h.os, hg.tape.trans h.tape, hg.output.trans h.output, Nat.le_trans h.size hg.size, fun k hk => (hg.block k (Nat.lt_of_lt_of_le hk h.size) (fun e => by have := hr k e.symm; omega)).trans (h.block k hk)⟩
end Go.Bod
namespace Go.Proofs.YtmelgecjaonbbaaGreatDoor
open Go.RowKit Go.Bod

def Rel1 (w : World) (p : Nat) (v : Value) (wr : World) : Prop := (v = .int .i64 0 ∨ v = .int .i64 1) ∧ OneCell w wr 3 #[.int .i64 0] p
def RelM (w : World) (p : Nat) (v : Value) (wr : World) : Prop := (v = .int .i64 0 ∨ v = .int .i64 (-1)) ∧ OneCell w wr 3 #[.int .i64 0] p
theorem OneCell.cell {w wr : World} {v : Value} {p : Nat} (h : OneCell w wr 3 #[v] p) : wr.cell? ⟨p, 0, none⟩ = some v := cell_of_block h.2.1 0
theorem Next0_any (w : World) : Calls Tryz.prog 150 #[.string ⟨#[]⟩, .int .i64 0] w fun e w' => e = .returned (.int .i64 0) ∧ Below w.heap.size w w' := by
  have hU := Lib.hid (fun w => Bounds0_any w)
  go_enter Tryz.func150, Tryz.ntmps150
  go_wp2_with fail
  refine (hU.out _).mono ?_
  rintro e w1 ⟨p, rfl, hb1⟩
  go_wp2_with fail
  go_loopw [6] (Rel1 w p) (fun v _ => 1 - (RowKit.intOf v).toNat)
  case atStart => exact ⟨.inl rfl, hb1⟩
  case round =>
    obtain ⟨rfl | rfl, hB⟩ := hrel
    · have hc := hB.cell
      have HB := Lib.hid hB
      clear hB
      go_wp2
      go_roundw
      case rel => exact ⟨.inr rfl, HB.out⟩
      case measure => simp [RowKit.intOf]
    · go_wp2
      go_ret
      exact ⟨rfl, hB.2.2⟩
theorem Prev0_any (w : World) : Calls Tryz.prog 149 #[.string ⟨#[]⟩, .int .i64 0] w fun e w' => e = .returned (.int .i64 0) ∧ Below w.heap.size w w' := by
  have hU := Lib.hid (fun w => Bounds0_any w)
  go_enter Tryz.func149, Tryz.ntmps149
  go_wp2_with fail
  refine (hU.out _).mono ?_
  rintro e w1 ⟨p, rfl, hb1⟩
  go_wp2_with fail
  go_loopw [6] (RelM w p) (fun v _ => (RowKit.intOf v + 1).toNat)
  case atStart => exact ⟨.inl rfl, hb1⟩
  case round =>
    obtain ⟨rfl | rfl, hB⟩ := hrel
    · have hc := hB.cell
      have HB := Lib.hid hB
      clear hB
      go_wp2
      go_roundw
      case rel => exact ⟨.inr rfl, HB.out⟩
      case measure => simp [RowKit.intOf]
    · go_wp2
      go_ret
      exact ⟨rfl, hB.2.2⟩
theorem Snap0_any (i : Int) (w : World) (h0 : 0 ≤ i) : Calls Tryz.prog 124 #[.string ⟨#[]⟩, .int .i64 i] w fun e w' => e = .returned (.int .i64 0) ∧ Below w.heap.size w w' := by
  have hU := Lib.hid (fun w => Bounds0_any w)
  by_cases hi : i = 0
  · subst hi
    go_enter Tryz.func124, Tryz.ntmps124
    go_wp2_with fail
    refine (hU.out _).mono ?_
    rintro e w1 ⟨p, rfl, hb1⟩
    go_wp2_with fail
    go_loopw [6] (Rel1 w p) (fun v _ => 1 - (RowKit.intOf v).toNat)
    case atStart => exact ⟨.inl rfl, hb1⟩
    case round =>
      obtain ⟨rfl | rfl, hB⟩ := hrel
      · have hc := hB.cell
        have HB := Lib.hid hB
        clear hB
        go_wp2
        go_ret
        exact ⟨rfl, HB.out.2.2⟩
      · go_wp2
        go_ret
        exact ⟨rfl, hB.2.2⟩
  · have h1 : decide (i ≤ 0) = false := by simp; omega
    go_enter Tryz.func124, Tryz.ntmps124
    go_wp2_with fail
    refine (hU.out _).mono ?_
    rintro e w1 ⟨p, rfl, hb1⟩
    go_wp2_with fail
    go_loopw [6] (Rel1 w p) (fun v _ => 1 - (RowKit.intOf v).toNat)
    case atStart => exact ⟨.inl rfl, hb1⟩
    case round =>
      obtain ⟨rfl | rfl, hB⟩ := hrel
      · have hc := hB.cell
        have HB := Lib.hid hB
        clear hB
        go_wp2
        go_roundw
        case rel => exact ⟨.inr rfl, HB.out⟩
        case measure => simp [RowKit.intOf]
      · go_wp2
        go_ret
        exact ⟨rfl, hB.2.2⟩
theorem snap0_any (i : Int) (w : World) (h1 : -9223372036854775808 ≤ i) (h2 : i ≤ 9223372036854775807) : Calls Tryz.prog 70 #[.string ⟨#[]⟩, .int .i64 i] w fun e w' => e = .returned (.int .i64 0) ∧ Below w.heap.size w w' := by
  by_cases hi : i < 0
  · have hU := Lib.hid (fun w => Snap0_any 0 w (by omega))
    go_enter Tryz.func70, Tryz.ntmps70
    go_wp2_with fail
    refine (hU.out _).mono ?_
    rintro e w1 ⟨rfl, hb1⟩
    go_wp2
    go_ret
    exact ⟨rfl, hb1⟩
  · have hU := Lib.hid (fun w => Snap0_any i w (by omega))
    go_enter Tryz.func70, Tryz.ntmps70
    go_wp2_with fail
    refine (hU.out _).mono ?_
    rintro e w1 ⟨rfl, hb1⟩
    go_wp2
    go_ret
    exact ⟨rfl, hb1⟩
theorem Spans05_any (w : World) : Calls Tryz.prog 208 #[.string ⟨#[]⟩] w fun e w' => e = .returned (.slice none 0 0) ∧ Below w.heap.size w w' := by
  have hU := Lib.hid (fun w => List0_any w)
  go_enter Tryz.func208, Tryz.ntmps208
  go_wp2_with fail
  refine (hU.out _).mono ?_
  rintro e w1 ⟨rfl, hb1⟩
  go_wp2_with fail
  go_loopw [4, 5] (fun u v wr => u = .slice none 0 0 ∧ v = .int .i64 0 ∧ Below w.heap.size w wr) (fun _ _ _ => 0)
  case atStart => exact ⟨rfl, rfl, hb1⟩
  case round =>
    obtain ⟨rfl, rfl, hB⟩ := hrel
    go_wp2
    go_ret
    exact ⟨rfl, hB⟩
theorem held0_any (i : Int) (w : World) (h1 : -9223372036854775808 ≤ i) (h2 : i ≤ 9223372036854775807) : Calls Tryz.prog 207 #[.string ⟨#[]⟩, .int .i64 i] w fun e w' => e = .returned (.int .i64 (min (max i 0) 0)) ∧ w = w' := by
  go_enter Tryz.func207, Tryz.ntmps207
  go_wp2
  go_ret
  exact ⟨rfl, rfl⟩
theorem Behind05_any (w : World) : Calls Tryz.prog 151 #[.string ⟨#[]⟩, .int .i64 0] w fun e w' => e = .returned (.int .i64 0) ∧ Below w.heap.size w w' := by
  have hU := Lib.hid (fun w => Spans05_any w)
  have hH := Lib.hid (fun w => held0_any 0 w (by omega) (by omega))
  go_enter Tryz.func151, Tryz.ntmps151
  go_wp2_with fail
  refine (hH.out _).mono ?_
  rintro e w1 ⟨rfl, rfl⟩
  go_wp2_with fail
  refine (hU.out _).mono ?_
  rintro e w1 ⟨rfl, hb1⟩
  go_wp2_with fail
  go_loopw [6] (fun v wr => v = .int .i64 (-1) ∧ Below w.heap.size w wr) (fun _ _ => 0)
  case atStart => exact ⟨rfl, hb1⟩
  case round =>
    obtain ⟨rfl, hB⟩ := hrel
    go_wp2
    go_ret
    exact ⟨rfl, hB⟩
theorem Ahead05_any (w : World) : Calls Tryz.prog 152 #[.string ⟨#[]⟩, .int .i64 0] w fun e w' => e = .returned (.int .i64 0) ∧ Below w.heap.size w w' := by
  have hU := Lib.hid (fun w => Spans05_any w)
  have hH := Lib.hid (fun w => held0_any 0 w (by omega) (by omega))
  go_enter Tryz.func152, Tryz.ntmps152
  go_wp2_with fail
  refine (hH.out _).mono ?_
  rintro e w1 ⟨rfl, rfl⟩
  go_wp2_with fail
  refine (hU.out _).mono ?_
  rintro e w1 ⟨rfl, hb1⟩
  go_wp2_with fail
  go_loopw [6] (fun v wr => v = .int .i64 0 ∧ Below w.heap.size w wr) (fun _ _ => 0)
  case atStart => exact ⟨rfl, hb1⟩
  case round =>
    obtain ⟨rfl, hB⟩ := hrel
    go_wp2
    go_ret
    exact ⟨rfl, hB⟩
/-- The one line of the empty text. -/
def LineAt (w : World) (p : Nat) : Prop := w.cell? ⟨p, 0, none⟩ = some (.int .i64 0) ∧ w.cell? ⟨p, 1, none⟩ = some (.int .i64 0) ∧ w.cell? ⟨p, 2, none⟩ = some (.slice none 0 0)
theorem infoLine : (Tryz.prog.info? 129).map (fun i => (i.zero, i.size, i.bytes)) = some (some (.agg #[.int .i64 0, .int .i64 0, .slice none 0 0]), 3, 40) := by kernel_rfl
set_option maxRecDepth 100000 in
theorem Lines0_any (w : World) : Calls Tryz.prog 69 #[.string ⟨#[]⟩] w fun e w' => (∃ p c, e = .returned (.slice (some ⟨p, 0, none⟩) 1 c) ∧ 1 ≤ c ∧ LineAt w' p) ∧ Below w.heap.size w w' := by
  have hU := Lib.hid (fun w => List0_any w)
  obtain ⟨i0, hi, hz0, hz1, hz2⟩ := info_parts infoLine
  go_enter Tryz.func69, Tryz.ntmps69
  go_wp2_with fail
  refine (hU.out _).mono ?_
  rintro e w1 ⟨rfl, hb1⟩
  go_wp2_with fail
  go_loopw [3, 6] (fun u v wr => u = .slice none 0 0 ∧ v = .int .i64 0 ∧ wr.heap[w1.heap.size]? = some (.cells #[.int .i64 0, .int .i64 0, .slice none 0 0] 129 (0, 0)) ∧ Below w.heap.size w wr) (fun _ _ _ => 0)
  case atStart => exact ⟨rfl, rfl, alloc_get _ _, below_alloc hb1 _⟩
  case round =>
    obtain ⟨rfl, rfl, hg, hB⟩ := hrel
    have hz := hb1.size
    have zg := block_lt hg
    have kg := frozen_of_block hg
    have d0 : wr.cell? ⟨w1.heap.size, 0, none⟩ = some (.int .i64 0) := cell_of_block hg 0
    have d1 : wr.cell? ⟨w1.heap.size, 1, none⟩ = some (.int .i64 0) := cell_of_block hg 1
    have d2 : wr.cell? ⟨w1.heap.size, 2, none⟩ = some (.slice none 0 0) := cell_of_block hg 2
    go_wp2_with (at_builtin; refine wpList_append_own _ rfl _ _ 126 rfl w.heap.size 129 i0 (.agg #[.int .i64 0, .int .i64 0, .slice none 0 0]) 3 40 Tryz.underlying126 hi hz0 hz1 hz2 rfl (by decide) (.slice none 0 0) 0 [] rfl (World.ownsRow_nil _ _ _ _) ⟨wr.heap.size, 0, none⟩ 1 1 [.int .i64 0, .int .i64 0, .slice none 0 0] rfl rfl (by have := cells_new (wr.setCell ⟨w1.heap.size, 1, none⟩ (.int .i64 0)) [.int .i64 0, .int .i64 0, .slice none 0 0] 129; simpa using this) (by intro u hu; simp at hu; rcases hu with rfl | rfl | rfl <;> rfl) (by unfold maxLen; omega) (by omega) (by have := hB.size; simp; omega) ?_; intro v' w' hown hgrow hnil)
    have hO := hown
    rcases hown.2 with ⟨_, h0⟩ | ⟨g, cap, cur, rfl, _, _, hnc, _⟩
    · omega
    · go_ret
      refine ⟨⟨g, cap, rfl, hnc, row_cell hO 0 _ rfl, row_cell hO 1 _ rfl, row_cell hO 2 _ rfl⟩, ?_⟩
      exact below_grown (below_alloc (hB.setCell (p := ⟨w1.heap.size, 1, none⟩) hz _) _) hgrow (by intro k hk; simp [Value.ownBlock] at hk)
theorem LineAt.via {W w : World} {p : Nat} (h : LineAt W p) (hb : Below W.heap.size W w) : LineAt w p := ⟨cell_via hb h.1, cell_via hb h.2.1, cell_via hb h.2.2⟩
theorem lineOf0_any (w : World) (p c : Nat) (h : LineAt w p) : Calls Tryz.prog 71 #[.slice (some ⟨p, 0, none⟩) 1 c, .int .i64 0] w fun e w' => e = .returned (.int .i64 0) ∧ w = w' := by
  obtain ⟨h0, h1, h2⟩ := h
  go_enter Tryz.func71, Tryz.ntmps71
  go_wp2_with fail
  go_loop [5] (fun v => v = .int .i64 0) (fun _ => 0)
  case atStart => rfl
  case round =>
    obtain rfl := hrel
    go_wp2
    go_ret
    exact ⟨rfl, rfl⟩
theorem column0_any (w : World) : Calls Tryz.prog 72 #[.agg #[.int .i64 0, .int .i64 0, .slice none 0 0], .int .i64 0] w fun e w' => e = .returned (.int .i64 0) ∧ Below w.heap.size w w' := by
  go_enter Tryz.func72, Tryz.ntmps72
  go_wp2_with fail
  go_loopw [5, 6] (fun u v wr => u = .int .i64 0 ∧ v = .int .i64 0 ∧ wr.heap[w.heap.size]? = some (.cells #[.int .i64 0, .int .i64 0, .slice none 0 0] 129 (0, 0)) ∧ Below w.heap.size w wr) (fun _ _ _ => 0)
  case atStart => exact ⟨rfl, rfl, alloc_get _ _, below_alloc (Below.refl _ _) _⟩
  case round =>
    obtain ⟨rfl, rfl, hg, hB⟩ := hrel
    have d2 : wr.cell? ⟨w.heap.size, 2, none⟩ = some (.slice none 0 0) := cell_of_block hg 2
    go_wp2
    go_ret
    exact ⟨rfl, hB⟩
set_option maxRecDepth 100000 in
theorem step0_any (w : World) (p c : Nat) (h : LineAt w p) (hc : 1 ≤ c) (k g : Int) (hk : 4 ≤ k ∧ k ≤ 13) :
    Calls Tryz.prog 73 #[.string ⟨#[]⟩, .slice (some ⟨p, 0, none⟩) 1 c, .int .i64 k, .int .i64 0, .int .i64 g] w fun e w' => e = .returned (.tuple #[.int .i64 0, .bool (decide (k = 8 ∨ k = 9 ∨ k = 12 ∨ k = 13))]) ∧ Below w.heap.size w w' := by
  have hL := Lib.hid (lineOf0_any w p c h)
  have hP := Lib.hid (fun w => Prev0_any w)
  have hN := Lib.hid (fun w => Next0_any w)
  have hB := Lib.hid (fun w => Behind05_any w)
  have hA := Lib.hid (fun w => Ahead05_any w)
  have H := Lib.hid h
  obtain ⟨h0, h1, h2⟩ := h
  rcases (by omega : k = 4 ∨ k = 5 ∨ k = 6 ∨ k = 7 ∨ k = 8 ∨ k = 9 ∨ k = 10 ∨ k = 11 ∨ k = 12 ∨ k = 13) with rfl | rfl | rfl | rfl | rfl | rfl | rfl | rfl | rfl | rfl
  all_goals
    go_enter Tryz.func73, Tryz.ntmps73
    go_wp2_with fail
    refine hL.out.mono ?_
    rintro e w1 ⟨rfl, rfl⟩
    go_wp2_with fail
  · refine (hP.out _).mono ?_
    rintro e w2 ⟨rfl, hb2⟩
    go_wp2
    go_ret2
    exact ⟨rfl, hb2⟩
  · refine (hN.out _).mono ?_
    rintro e w2 ⟨rfl, hb2⟩
    go_wp2
    go_ret2
    exact ⟨rfl, hb2⟩
  · refine (hB.out _).mono ?_
    rintro e w2 ⟨rfl, hb2⟩
    go_wp2
    go_ret2
    exact ⟨rfl, hb2⟩
  · refine (hA.out _).mono ?_
    rintro e w2 ⟨rfl, hb2⟩
    go_wp2
    go_ret2
    exact ⟨rfl, hb2⟩
  all_goals
    go_ret2
    exact ⟨rfl, Below.refl _ _⟩
end Go.Proofs.YtmelgecjaonbbaaGreatDoor
namespace Go.Proofs.YtmelgecjaonbbaaGreatDoor
open Go.RowKit Go.Bod

theorem Motion16_any (k : Int) (w : World) : Calls Tryz.prog 68 #[.int .i64 k] w fun e w' => e = .returned (.bool (decide (4 ≤ k ∧ k ≤ 13))) ∧ w = w' := by
  by_cases h1 : 4 ≤ k
  · by_cases h2 : k ≤ 13
    · rw [decide_eq_true ⟨h1, h2⟩]
      go_enter Tryz.func68, Tryz.ntmps68
      go_wp2
      go_ret
      exact ⟨rfl, rfl⟩
    · rw [decide_eq_false (fun h => h2 h.2)]
      go_enter Tryz.func68, Tryz.ntmps68
      go_wp2
      go_ret
      exact ⟨rfl, rfl⟩
  · rw [decide_eq_false (fun h => h1 h.1)]
    have e1 : decide (4 ≤ k) = false := by simp; omega
    go_enter Tryz.func68, Tryz.ntmps68
    go_wp2
    go_ret
    exact ⟨rfl, rfl⟩
/-- What both answer at the empty text. -/
def goE (k goal : Int) : Array Value :=
  if 4 ≤ k ∧ k ≤ 13 then (if k = 8 ∨ k = 9 ∨ k = 12 ∨ k = 13 then #[.int .i64 0, .int .i64 (-1), .int .i64 0] else #[.int .i64 0, .int .i64 (max goal (-1)), .int .i64 8]) else #[.int .i64 0, .int .i64 (-1), .int .i64 13]
def LoopE0 (w : World) (p : Nat) (u v x : Value) (wr : World) : Prop := u = .int .i64 0 ∧ (∃ j : Nat, v = .int .i64 j ∧ 1 ≤ j ∧ j ≤ 1000) ∧ LineAt wr p ∧ Below w.heap.size w wr
set_option maxHeartbeats 2000000 in
set_option maxRecDepth 100000 in
theorem Go16_fail (k : Int) (hk : 4 ≤ k ∧ k ≤ 13) (hs : ¬ (k = 8 ∨ k = 9 ∨ k = 12 ∨ k = 13)) (f10 : (k == 10) = true ∨ ((k == 10) = false ∧ (k == 11) = true) ∨ ((k == 10) = false ∧ (k == 11) = false)) (at_ goal count : Int) (w : World) (ha1 : -9223372036854775808 ≤ at_) (ha2 : at_ ≤ 9223372036854775807) (hg1 : -9223372036854775808 ≤ goal) (hg2 : goal ≤ 9223372036854775807) (hc1 : -9223372036854775808 ≤ count) (hc2 : count ≤ 9223372036854775807) :
    Calls Tryz.prog 20 #[.string ⟨#[]⟩, .int .i64 k, .int .i64 at_, .int .i64 goal, .int .i64 count] w fun e w' => e = .returned (.tuple (goE k goal)) ∧ Below w.heap.size w w' := by
  have hM := Motion16_any k w
  rw [decide_eq_true hk] at hM
  have HM := Lib.hid hM
  have hL := Lib.hid (fun w => Lines0_any w)
  have hS := Lib.hid (fun w => snap0_any at_ w ha1 ha2)
  have hO := Lib.hid (fun w p c h => lineOf0_any w p c h)
  have hC := Lib.hid (fun w => column0_any w)
  have hT : ∀ w p c, LineAt w p → 1 ≤ c → ∀ g, Calls Tryz.prog 73 #[.string ⟨#[]⟩, .slice (some ⟨p, 0, none⟩) 1 c, .int .i64 k, .int .i64 0, .int .i64 g] w fun e w' => e = .returned (.tuple #[.int .i64 0, .bool false]) ∧ Below w.heap.size w w' := by
    intro w p c h hc g
    have := step0_any w p c h hc k g hk
    rwa [decide_eq_false hs] at this
  have HT := Lib.hid hT
  clear hM hT
  by_cases hg : goal < 0
  · have hr : goE k goal = #[.int .i64 0, .int .i64 (-1), .int .i64 8] := by unfold goE; rw [if_pos hk, if_neg hs, show max goal (-1) = -1 by omega]
    rw [hr]
    clear hr hs hk
    rcases f10 with f10 | ⟨f10, f11⟩ | ⟨f10, f11⟩
    all_goals
      by_cases hc1' : count < 1
      · go_enter Tryz.func20, Tryz.ntmps20
        go_wp2_with fail
        refine HM.out.mono ?_
        rintro e w1 ⟨rfl, rfl⟩
        go_wp2_with fail
        refine (hL.out _).mono ?_
        rintro e w1 ⟨⟨p, c, rfl, hc, hl⟩, hb1⟩
        go_wp2_with fail
        refine (hS.out _).mono ?_
        rintro e w2 ⟨rfl, hb2⟩
        have hl2 := hl.via hb2
        have hB2 := below_from hb1 hb2
        obtain ⟨l0, l1, l2⟩ := hl2
        go_wp2_with fail
        refine (hO.out _ _ _ ⟨l0, l1, l2⟩).mono ?_
        rintro e w3 ⟨rfl, rfl⟩
        go_wp2_with fail
        refine (hC.out _).mono ?_
        rintro e w3 ⟨rfl, hb3⟩
        have hl3 := LineAt.via ⟨l0, l1, l2⟩ hb3
        have hB3 := below_from hB2 hb3
        have HL3 := Lib.hid hl3
        clear hl3 l0 l1 l2
        go_wp2_with fail
        refine (HT.out _ _ _ HL3.out hc _).mono ?_
        rintro e w4 ⟨rfl, hb4⟩
        have hB4 := below_from hB3 hb4
        go_wp2
        refine bodyPost_ret (v := .tuple #[.int .i64 0, .int .i64 (-1), .int .i64 8]) (by simp [results, Tryz.results20, go_sem]) rfl ⟨rfl, hB4⟩
      · by_cases hc2' : count > 1000
        · go_enter Tryz.func20, Tryz.ntmps20
          go_wp2_with fail
          refine HM.out.mono ?_
          rintro e w1 ⟨rfl, rfl⟩
          go_wp2_with fail
          refine (hL.out _).mono ?_
          rintro e w1 ⟨⟨p, c, rfl, hc, hl⟩, hb1⟩
          go_wp2_with fail
          refine (hS.out _).mono ?_
          rintro e w2 ⟨rfl, hb2⟩
          have hl2 := hl.via hb2
          have hB2 := below_from hb1 hb2
          obtain ⟨l0, l1, l2⟩ := hl2
          go_wp2_with fail
          refine (hO.out _ _ _ ⟨l0, l1, l2⟩).mono ?_
          rintro e w3 ⟨rfl, rfl⟩
          go_wp2_with fail
          refine (hC.out _).mono ?_
          rintro e w3 ⟨rfl, hb3⟩
          have hl3 := LineAt.via ⟨l0, l1, l2⟩ hb3
          have hB3 := below_from hB2 hb3
          have HL3 := Lib.hid hl3
          clear hl3 l0 l1 l2
          go_wp2_with fail
          refine (HT.out _ _ _ HL3.out hc _).mono ?_
          rintro e w4 ⟨rfl, hb4⟩
          have hB4 := below_from hB3 hb4
          go_wp2
          refine bodyPost_ret (v := .tuple #[.int .i64 0, .int .i64 (-1), .int .i64 8]) (by simp [results, Tryz.results20, go_sem]) rfl ⟨rfl, hB4⟩
        · go_enter Tryz.func20, Tryz.ntmps20
          go_wp2_with fail
          refine HM.out.mono ?_
          rintro e w1 ⟨rfl, rfl⟩
          go_wp2_with fail
          refine (hL.out _).mono ?_
          rintro e w1 ⟨⟨p, c, rfl, hc, hl⟩, hb1⟩
          go_wp2_with fail
          refine (hS.out _).mono ?_
          rintro e w2 ⟨rfl, hb2⟩
          have hl2 := hl.via hb2
          have hB2 := below_from hb1 hb2
          obtain ⟨l0, l1, l2⟩ := hl2
          go_wp2_with fail
          refine (hO.out _ _ _ ⟨l0, l1, l2⟩).mono ?_
          rintro e w3 ⟨rfl, rfl⟩
          go_wp2_with fail
          refine (hC.out _).mono ?_
          rintro e w3 ⟨rfl, hb3⟩
          have hl3 := LineAt.via ⟨l0, l1, l2⟩ hb3
          have hB3 := below_from hB2 hb3
          have HL3 := Lib.hid hl3
          clear hl3 l0 l1 l2
          go_wp2_with fail
          refine (HT.out _ _ _ HL3.out hc _).mono ?_
          rintro e w4 ⟨rfl, hb4⟩
          have hB4 := below_from hB3 hb4
          go_wp2
          refine bodyPost_ret (v := .tuple #[.int .i64 0, .int .i64 (-1), .int .i64 8]) (by simp [results, Tryz.results20, go_sem]) rfl ⟨rfl, hB4⟩
  · have hr : goE k goal = #[.int .i64 0, .int .i64 (goal), .int .i64 8] := by unfold goE; rw [if_pos hk, if_neg hs, show max goal (-1) = goal by omega]
    rw [hr]
    clear hr hs hk
    rcases f10 with f10 | ⟨f10, f11⟩ | ⟨f10, f11⟩
    all_goals
      by_cases hc1' : count < 1
      · go_enter Tryz.func20, Tryz.ntmps20
        go_wp2_with fail
        refine HM.out.mono ?_
        rintro e w1 ⟨rfl, rfl⟩
        go_wp2_with fail
        refine (hL.out _).mono ?_
        rintro e w1 ⟨⟨p, c, rfl, hc, hl⟩, hb1⟩
        go_wp2_with fail
        refine (hS.out _).mono ?_
        rintro e w2 ⟨rfl, hb2⟩
        have hl2 := hl.via hb2
        have hB2 := below_from hb1 hb2
        obtain ⟨l0, l1, l2⟩ := hl2
        have hl3 : LineAt w2 p := ⟨l0, l1, l2⟩
        have hB3 := hB2
        have HL3 := Lib.hid hl3
        clear hl3 l0 l1 l2
        go_wp2_with fail
        refine (HT.out _ _ _ HL3.out hc _).mono ?_
        rintro e w4 ⟨rfl, hb4⟩
        have hB4 := below_from hB3 hb4
        go_wp2
        refine bodyPost_ret (v := .tuple #[.int .i64 0, .int .i64 (goal), .int .i64 8]) (by simp [results, Tryz.results20, go_sem]) rfl ⟨rfl, hB4⟩
      · by_cases hc2' : count > 1000
        · go_enter Tryz.func20, Tryz.ntmps20
          go_wp2_with fail
          refine HM.out.mono ?_
          rintro e w1 ⟨rfl, rfl⟩
          go_wp2_with fail
          refine (hL.out _).mono ?_
          rintro e w1 ⟨⟨p, c, rfl, hc, hl⟩, hb1⟩
          go_wp2_with fail
          refine (hS.out _).mono ?_
          rintro e w2 ⟨rfl, hb2⟩
          have hl2 := hl.via hb2
          have hB2 := below_from hb1 hb2
          obtain ⟨l0, l1, l2⟩ := hl2
          have hl3 : LineAt w2 p := ⟨l0, l1, l2⟩
          have hB3 := hB2
          have HL3 := Lib.hid hl3
          clear hl3 l0 l1 l2
          go_wp2_with fail
          refine (HT.out _ _ _ HL3.out hc _).mono ?_
          rintro e w4 ⟨rfl, hb4⟩
          have hB4 := below_from hB3 hb4
          go_wp2
          refine bodyPost_ret (v := .tuple #[.int .i64 0, .int .i64 (goal), .int .i64 8]) (by simp [results, Tryz.results20, go_sem]) rfl ⟨rfl, hB4⟩
        · go_enter Tryz.func20, Tryz.ntmps20
          go_wp2_with fail
          refine HM.out.mono ?_
          rintro e w1 ⟨rfl, rfl⟩
          go_wp2_with fail
          refine (hL.out _).mono ?_
          rintro e w1 ⟨⟨p, c, rfl, hc, hl⟩, hb1⟩
          go_wp2_with fail
          refine (hS.out _).mono ?_
          rintro e w2 ⟨rfl, hb2⟩
          have hl2 := hl.via hb2
          have hB2 := below_from hb1 hb2
          obtain ⟨l0, l1, l2⟩ := hl2
          have hl3 : LineAt w2 p := ⟨l0, l1, l2⟩
          have hB3 := hB2
          have HL3 := Lib.hid hl3
          clear hl3 l0 l1 l2
          go_wp2_with fail
          refine (HT.out _ _ _ HL3.out hc _).mono ?_
          rintro e w4 ⟨rfl, hb4⟩
          have hB4 := below_from hB3 hb4
          go_wp2
          refine bodyPost_ret (v := .tuple #[.int .i64 0, .int .i64 (goal), .int .i64 8]) (by simp [results, Tryz.results20, go_sem]) rfl ⟨rfl, hB4⟩
def LoopE (w : World) (p : Nat) (u v : Value) (wr : World) : Prop := u = .int .i64 0 ∧ (∃ j : Nat, v = .int .i64 j ∧ 1 ≤ j ∧ j ≤ 1000) ∧ LineAt wr p ∧ Below w.heap.size w wr
set_option maxHeartbeats 2000000 in
set_option maxRecDepth 100000 in
theorem Go16_ok (k : Int) (hk : 4 ≤ k ∧ k ≤ 13) (hs : k = 8 ∨ k = 9 ∨ k = 12 ∨ k = 13) (at_ goal count : Int) (w : World) (ha1 : -9223372036854775808 ≤ at_) (ha2 : at_ ≤ 9223372036854775807) (hg1 : -9223372036854775808 ≤ goal) (hg2 : goal ≤ 9223372036854775807) (hc1 : -9223372036854775808 ≤ count) (hc2 : count ≤ 9223372036854775807) :
    Calls Tryz.prog 20 #[.string ⟨#[]⟩, .int .i64 k, .int .i64 at_, .int .i64 goal, .int .i64 count] w fun e w' => e = .returned (.tuple (goE k goal)) ∧ Below w.heap.size w w' := by
  have hM := Motion16_any k w
  rw [decide_eq_true hk] at hM
  have HM := Lib.hid hM
  have hL := Lib.hid (fun w => Lines0_any w)
  have hS := Lib.hid (fun w => snap0_any at_ w ha1 ha2)
  have hO := Lib.hid (fun w p c h => lineOf0_any w p c h)
  have hC := Lib.hid (fun w => column0_any w)
  have hT : ∀ w p c, LineAt w p → 1 ≤ c → ∀ g, Calls Tryz.prog 73 #[.string ⟨#[]⟩, .slice (some ⟨p, 0, none⟩) 1 c, .int .i64 k, .int .i64 0, .int .i64 g] w fun e w' => e = .returned (.tuple #[.int .i64 0, .bool true]) ∧ Below w.heap.size w w' := by
    intro w p c h hc g
    have := step0_any w p c h hc k g hk
    rwa [decide_eq_true hs] at this
  have HT := Lib.hid hT
  clear hM hT
  have hr : goE k goal = #[.int .i64 0, .int .i64 (-1), .int .i64 0] := by unfold goE; rw [if_pos hk, if_pos hs]
  rw [hr]
  have f10 : (k == 10) = false := by simp; omega
  have f11 : (k == 11) = false := by simp; omega
  clear hr hs hk
  by_cases hg : goal < 0
  · by_cases hc1' : count < 1
    · go_enter Tryz.func20, Tryz.ntmps20
      go_wp2_with fail
      refine HM.out.mono ?_
      rintro e w1 ⟨rfl, rfl⟩
      go_wp2_with fail
      refine (hL.out _).mono ?_
      rintro e w1 ⟨⟨p, c, rfl, hc, hl⟩, hb1⟩
      go_wp2_with fail
      refine (hS.out _).mono ?_
      rintro e w2 ⟨rfl, hb2⟩
      have hl2 := hl.via hb2
      have hB2 := below_from hb1 hb2
      obtain ⟨l0, l1, l2⟩ := hl2
      go_wp2_with fail
      refine (hO.out _ _ _ ⟨l0, l1, l2⟩).mono ?_
      rintro e w3 ⟨rfl, rfl⟩
      go_wp2_with fail
      refine (hC.out _).mono ?_
      rintro e w3 ⟨rfl, hb3⟩
      have hl3 := LineAt.via ⟨l0, l1, l2⟩ hb3
      have hB3 := below_from hB2 hb3
      have HL3 := Lib.hid hl3
      clear hl3 l0 l1 l2
      go_wp2_with fail
      refine (HT.out _ _ _ HL3.out hc _).mono ?_
      rintro e w4 ⟨rfl, hb4⟩
      have hB4 := below_from hB3 hb4
      go_wp2_with fail
      go_loopw [17, 19] (LoopE w p) (fun _ v _ => 1000 - (RowKit.intOf v).toNat)
      case atStart => exact ⟨rfl, ⟨1, rfl, Nat.le_refl _, by omega⟩, HL3.out.via hb4, hB4⟩
      case round =>
        obtain ⟨rfl, ⟨j, rfl, hj1, hj2⟩, hl5, hB5⟩ := hrel
        have HL5 := Lib.hid hl5
        clear hl5
        by_cases hj : (j : Int) < 1
        · go_wp2_with fail
          refine (HT.out _ _ _ HL5.out hc _).mono ?_
          rintro e w6 ⟨rfl, hb6⟩
          go_wp2
          go_roundw
          case rel => exact ⟨rfl, ⟨j + 1, by go_num, by omega, by omega⟩, HL5.out.via hb6, below_from hB5 hb6⟩
          case measure => simp [RowKit.intOf]; omega
        · go_wp2
          refine bodyPost_ret (v := .tuple #[.int .i64 0, .int .i64 (-1), .int .i64 0]) (by simp [results, Tryz.results20, go_sem]) rfl ⟨rfl, hB5⟩
    · by_cases hc2' : count > 1000
      · go_enter Tryz.func20, Tryz.ntmps20
        go_wp2_with fail
        refine HM.out.mono ?_
        rintro e w1 ⟨rfl, rfl⟩
        go_wp2_with fail
        refine (hL.out _).mono ?_
        rintro e w1 ⟨⟨p, c, rfl, hc, hl⟩, hb1⟩
        go_wp2_with fail
        refine (hS.out _).mono ?_
        rintro e w2 ⟨rfl, hb2⟩
        have hl2 := hl.via hb2
        have hB2 := below_from hb1 hb2
        obtain ⟨l0, l1, l2⟩ := hl2
        go_wp2_with fail
        refine (hO.out _ _ _ ⟨l0, l1, l2⟩).mono ?_
        rintro e w3 ⟨rfl, rfl⟩
        go_wp2_with fail
        refine (hC.out _).mono ?_
        rintro e w3 ⟨rfl, hb3⟩
        have hl3 := LineAt.via ⟨l0, l1, l2⟩ hb3
        have hB3 := below_from hB2 hb3
        have HL3 := Lib.hid hl3
        clear hl3 l0 l1 l2
        go_wp2_with fail
        refine (HT.out _ _ _ HL3.out hc _).mono ?_
        rintro e w4 ⟨rfl, hb4⟩
        have hB4 := below_from hB3 hb4
        go_wp2_with fail
        go_loopw [17, 19] (LoopE w p) (fun _ v _ => 1000 - (RowKit.intOf v).toNat)
        case atStart => exact ⟨rfl, ⟨1, rfl, Nat.le_refl _, by omega⟩, HL3.out.via hb4, hB4⟩
        case round =>
          obtain ⟨rfl, ⟨j, rfl, hj1, hj2⟩, hl5, hB5⟩ := hrel
          have HL5 := Lib.hid hl5
          clear hl5
          by_cases hj : (j : Int) < 1000
          · go_wp2_with fail
            refine (HT.out _ _ _ HL5.out hc _).mono ?_
            rintro e w6 ⟨rfl, hb6⟩
            go_wp2
            go_roundw
            case rel => exact ⟨rfl, ⟨j + 1, by go_num, by omega, by omega⟩, HL5.out.via hb6, below_from hB5 hb6⟩
            case measure => simp [RowKit.intOf]; omega
          · go_wp2
            refine bodyPost_ret (v := .tuple #[.int .i64 0, .int .i64 (-1), .int .i64 0]) (by simp [results, Tryz.results20, go_sem]) rfl ⟨rfl, hB5⟩
      · go_enter Tryz.func20, Tryz.ntmps20
        go_wp2_with fail
        refine HM.out.mono ?_
        rintro e w1 ⟨rfl, rfl⟩
        go_wp2_with fail
        refine (hL.out _).mono ?_
        rintro e w1 ⟨⟨p, c, rfl, hc, hl⟩, hb1⟩
        go_wp2_with fail
        refine (hS.out _).mono ?_
        rintro e w2 ⟨rfl, hb2⟩
        have hl2 := hl.via hb2
        have hB2 := below_from hb1 hb2
        obtain ⟨l0, l1, l2⟩ := hl2
        go_wp2_with fail
        refine (hO.out _ _ _ ⟨l0, l1, l2⟩).mono ?_
        rintro e w3 ⟨rfl, rfl⟩
        go_wp2_with fail
        refine (hC.out _).mono ?_
        rintro e w3 ⟨rfl, hb3⟩
        have hl3 := LineAt.via ⟨l0, l1, l2⟩ hb3
        have hB3 := below_from hB2 hb3
        have HL3 := Lib.hid hl3
        clear hl3 l0 l1 l2
        go_wp2_with fail
        refine (HT.out _ _ _ HL3.out hc _).mono ?_
        rintro e w4 ⟨rfl, hb4⟩
        have hB4 := below_from hB3 hb4
        go_wp2_with fail
        go_loopw [17, 19] (LoopE w p) (fun _ v _ => 1000 - (RowKit.intOf v).toNat)
        case atStart => exact ⟨rfl, ⟨1, rfl, Nat.le_refl _, by omega⟩, HL3.out.via hb4, hB4⟩
        case round =>
          obtain ⟨rfl, ⟨j, rfl, hj1, hj2⟩, hl5, hB5⟩ := hrel
          have HL5 := Lib.hid hl5
          clear hl5
          by_cases hj : (j : Int) < count
          · go_wp2_with fail
            refine (HT.out _ _ _ HL5.out hc _).mono ?_
            rintro e w6 ⟨rfl, hb6⟩
            go_wp2
            go_roundw
            case rel => exact ⟨rfl, ⟨j + 1, by go_num, by omega, by omega⟩, HL5.out.via hb6, below_from hB5 hb6⟩
            case measure => simp [RowKit.intOf]; omega
          · go_wp2
            refine bodyPost_ret (v := .tuple #[.int .i64 0, .int .i64 (-1), .int .i64 0]) (by simp [results, Tryz.results20, go_sem]) rfl ⟨rfl, hB5⟩
  · by_cases hc1' : count < 1
    · go_enter Tryz.func20, Tryz.ntmps20
      go_wp2_with fail
      refine HM.out.mono ?_
      rintro e w1 ⟨rfl, rfl⟩
      go_wp2_with fail
      refine (hL.out _).mono ?_
      rintro e w1 ⟨⟨p, c, rfl, hc, hl⟩, hb1⟩
      go_wp2_with fail
      refine (hS.out _).mono ?_
      rintro e w2 ⟨rfl, hb2⟩
      have hl2 := hl.via hb2
      have hB2 := below_from hb1 hb2
      obtain ⟨l0, l1, l2⟩ := hl2
      have hl3 : LineAt w2 p := ⟨l0, l1, l2⟩
      have hB3 := hB2
      have HL3 := Lib.hid hl3
      clear hl3 l0 l1 l2
      go_wp2_with fail
      refine (HT.out _ _ _ HL3.out hc _).mono ?_
      rintro e w4 ⟨rfl, hb4⟩
      have hB4 := below_from hB3 hb4
      go_wp2_with fail
      go_loopw [17, 19] (LoopE w p) (fun _ v _ => 1000 - (RowKit.intOf v).toNat)
      case atStart => exact ⟨rfl, ⟨1, rfl, Nat.le_refl _, by omega⟩, HL3.out.via hb4, hB4⟩
      case round =>
        obtain ⟨rfl, ⟨j, rfl, hj1, hj2⟩, hl5, hB5⟩ := hrel
        have HL5 := Lib.hid hl5
        clear hl5
        by_cases hj : (j : Int) < 1
        · go_wp2_with fail
          refine (HT.out _ _ _ HL5.out hc _).mono ?_
          rintro e w6 ⟨rfl, hb6⟩
          go_wp2
          go_roundw
          case rel => exact ⟨rfl, ⟨j + 1, by go_num, by omega, by omega⟩, HL5.out.via hb6, below_from hB5 hb6⟩
          case measure => simp [RowKit.intOf]; omega
        · go_wp2
          refine bodyPost_ret (v := .tuple #[.int .i64 0, .int .i64 (-1), .int .i64 0]) (by simp [results, Tryz.results20, go_sem]) rfl ⟨rfl, hB5⟩
    · by_cases hc2' : count > 1000
      · go_enter Tryz.func20, Tryz.ntmps20
        go_wp2_with fail
        refine HM.out.mono ?_
        rintro e w1 ⟨rfl, rfl⟩
        go_wp2_with fail
        refine (hL.out _).mono ?_
        rintro e w1 ⟨⟨p, c, rfl, hc, hl⟩, hb1⟩
        go_wp2_with fail
        refine (hS.out _).mono ?_
        rintro e w2 ⟨rfl, hb2⟩
        have hl2 := hl.via hb2
        have hB2 := below_from hb1 hb2
        obtain ⟨l0, l1, l2⟩ := hl2
        have hl3 : LineAt w2 p := ⟨l0, l1, l2⟩
        have hB3 := hB2
        have HL3 := Lib.hid hl3
        clear hl3 l0 l1 l2
        go_wp2_with fail
        refine (HT.out _ _ _ HL3.out hc _).mono ?_
        rintro e w4 ⟨rfl, hb4⟩
        have hB4 := below_from hB3 hb4
        go_wp2_with fail
        go_loopw [17, 19] (LoopE w p) (fun _ v _ => 1000 - (RowKit.intOf v).toNat)
        case atStart => exact ⟨rfl, ⟨1, rfl, Nat.le_refl _, by omega⟩, HL3.out.via hb4, hB4⟩
        case round =>
          obtain ⟨rfl, ⟨j, rfl, hj1, hj2⟩, hl5, hB5⟩ := hrel
          have HL5 := Lib.hid hl5
          clear hl5
          by_cases hj : (j : Int) < 1000
          · go_wp2_with fail
            refine (HT.out _ _ _ HL5.out hc _).mono ?_
            rintro e w6 ⟨rfl, hb6⟩
            go_wp2
            go_roundw
            case rel => exact ⟨rfl, ⟨j + 1, by go_num, by omega, by omega⟩, HL5.out.via hb6, below_from hB5 hb6⟩
            case measure => simp [RowKit.intOf]; omega
          · go_wp2
            refine bodyPost_ret (v := .tuple #[.int .i64 0, .int .i64 (-1), .int .i64 0]) (by simp [results, Tryz.results20, go_sem]) rfl ⟨rfl, hB5⟩
      · go_enter Tryz.func20, Tryz.ntmps20
        go_wp2_with fail
        refine HM.out.mono ?_
        rintro e w1 ⟨rfl, rfl⟩
        go_wp2_with fail
        refine (hL.out _).mono ?_
        rintro e w1 ⟨⟨p, c, rfl, hc, hl⟩, hb1⟩
        go_wp2_with fail
        refine (hS.out _).mono ?_
        rintro e w2 ⟨rfl, hb2⟩
        have hl2 := hl.via hb2
        have hB2 := below_from hb1 hb2
        obtain ⟨l0, l1, l2⟩ := hl2
        have hl3 : LineAt w2 p := ⟨l0, l1, l2⟩
        have hB3 := hB2
        have HL3 := Lib.hid hl3
        clear hl3 l0 l1 l2
        go_wp2_with fail
        refine (HT.out _ _ _ HL3.out hc _).mono ?_
        rintro e w4 ⟨rfl, hb4⟩
        have hB4 := below_from hB3 hb4
        go_wp2_with fail
        go_loopw [17, 19] (LoopE w p) (fun _ v _ => 1000 - (RowKit.intOf v).toNat)
        case atStart => exact ⟨rfl, ⟨1, rfl, Nat.le_refl _, by omega⟩, HL3.out.via hb4, hB4⟩
        case round =>
          obtain ⟨rfl, ⟨j, rfl, hj1, hj2⟩, hl5, hB5⟩ := hrel
          have HL5 := Lib.hid hl5
          clear hl5
          by_cases hj : (j : Int) < count
          · go_wp2_with fail
            refine (HT.out _ _ _ HL5.out hc _).mono ?_
            rintro e w6 ⟨rfl, hb6⟩
            go_wp2
            go_roundw
            case rel => exact ⟨rfl, ⟨j + 1, by go_num, by omega, by omega⟩, HL5.out.via hb6, below_from hB5 hb6⟩
            case measure => simp [RowKit.intOf]; omega
          · go_wp2
            refine bodyPost_ret (v := .tuple #[.int .i64 0, .int .i64 (-1), .int .i64 0]) (by simp [results, Tryz.results20, go_sem]) rfl ⟨rfl, hB5⟩
theorem Go16_any (k : Int) (at_ goal count : Int) (w : World) (ha1 : -9223372036854775808 ≤ at_) (ha2 : at_ ≤ 9223372036854775807) (hg1 : -9223372036854775808 ≤ goal) (hg2 : goal ≤ 9223372036854775807) (hc1 : -9223372036854775808 ≤ count) (hc2 : count ≤ 9223372036854775807) :
    Calls Tryz.prog 20 #[.string ⟨#[]⟩, .int .i64 k, .int .i64 at_, .int .i64 goal, .int .i64 count] w fun e w' => e = .returned (.tuple (goE k goal)) ∧ Below w.heap.size w w' := by
  by_cases hk : 4 ≤ k ∧ k ≤ 13
  · by_cases hs : k = 8 ∨ k = 9 ∨ k = 12 ∨ k = 13
    · exact Go16_ok k hk hs at_ goal count w ha1 ha2 hg1 hg2 hc1 hc2
    · refine Go16_fail k hk hs ?_ at_ goal count w ha1 ha2 hg1 hg2 hc1 hc2
      by_cases h10 : k = 10
      · left; simp [h10]
      · by_cases h11 : k = 11
        · right; left; simp [h11]
        · right; right; simp [h10, h11]
  · have hM := Motion16_any k w
    rw [decide_eq_false hk] at hM
    have HM := Lib.hid hM
    clear hM
    have hr : goE k goal = #[.int .i64 0, .int .i64 (-1), .int .i64 13] := by unfold goE; rw [if_neg hk]
    rw [hr]
    go_enter Tryz.func20, Tryz.ntmps20
    go_wp2_with fail
    refine HM.out.mono ?_
    rintro e w1 ⟨rfl, rfl⟩
    go_wp2
    refine bodyPost_ret (v := .tuple #[.int .i64 0, .int .i64 (-1), .int .i64 13]) (by simp [results, Tryz.results20, go_sem]) rfl ⟨rfl, Below.refl _ _⟩
end Go.Proofs.YtmelgecjaonbbaaGreatDoor
namespace Go.Proofs.YtmelgecjaonbbaaGreatDoor
open Go.RowKit Go.Bod

theorem storeNone (w : World) : StoreOk w none ⟨#[]⟩ := ⟨Nat.zero_le _, .inl ⟨rfl, rfl⟩⟩
theorem nlq_empty (k : Nat) : nlq ⟨#[]⟩ k = 0 := by unfold nlq; simp
theorem lbeg_empty (l : Nat) : lbeg ⟨#[]⟩ l = 0 := Nat.le_zero.1 (lbeg_least ⟨#[]⟩ l).1
theorem lend_empty : lend ⟨#[]⟩ 0 = 0 := by unfold lend lcount; rw [if_neg (by rw [nlq_empty]; omega)]; rfl
theorem snapN_empty (i : Int) : snapN ⟨#[]⟩ i = 0 := Nat.le_zero.1 (snapN_le _ _)
theorem goLoop_no {f : Nat → Int → Nat × Bool × Int} {a : Nat} {g : Int} (h : f a g = (0, false, g)) (c : Nat) (hc : 0 < c) : goLoop f c a 8 g = (a, 8, g) := by
  obtain ⟨c, rfl⟩ : ∃ m, c = m + 1 := ⟨c - 1, by omega⟩
  simp [goLoop, h]
theorem goLoop_yes {f : Nat → Int → Nat × Bool × Int} {g : Int} (h : f 0 g = (0, true, g)) : ∀ (c : Nat) (e : Int), goLoop f c 0 e g = (0, if c = 0 then e else 0, g)
  | 0, e => rfl
  | c + 1, e => by
    have := goLoop_yes h c 0
    simp only [goLoop, h, if_true, this]
    simp
theorem goM_no {f : Nat → Int → Nat × Bool × Int} (k i goal count : Int) (hk : 4 ≤ k ∧ k ≤ 13) (hs : ¬ (k = 8 ∨ k = 9 ∨ k = 12 ∨ k = 13)) (h : ∀ g, f 0 g = (0, false, g)) : goM f ⟨#[]⟩ k i goal count = goE k goal := by
  unfold goM goE
  rw [snapN_empty, goLoop_no (h _) _ (by omega), if_pos hk, if_neg hs]
  simp
theorem goM_yes {f : Nat → Int → Nat × Bool × Int} (k i goal count : Int) (hk : 4 ≤ k ∧ k ≤ 13) (hs : k = 8 ∨ k = 9 ∨ k = 12 ∨ k = 13) (h : ∀ g, f 0 g = (0, true, g)) : goM f ⟨#[]⟩ k i goal count = goE k goal := by
  unfold goM goE
  rw [snapN_empty, goLoop_yes (h _), if_pos hk, if_pos hs]
  have h1 : (min (max count 1) 1000).toNat ≠ 0 := by omega
  have h2 : k ≠ 10 ∧ k ≠ 11 := by omega
  simp [h1, h2]
theorem overM_empty (d goal : Int) (hd : d = 1 ∨ d = -1) : overM ⟨#[]⟩ 0 d goal = (0, false, goal) := by
  unfold overM lcount
  rw [nlq_empty, nlq_empty, if_pos (by omega)]
theorem Go0_any (w : World) (hT : Tabs w) (k i goal count : Int) (hi1 : -9223372036854775808 ≤ i) (hi2 : i ≤ 9223372036854775807) (hg1 : -9223372036854775808 ≤ goal) (hg2 : goal ≤ 9223372036854775807) (hc1 : -9223372036854775808 ≤ count) (hc2 : count ≤ 9223372036854775807) :
    Calls Tryz.prog 15 #[.pointer none, .int .i64 k, .int .i64 i, .int .i64 goal, .int .i64 count] w fun e w' => e = .returned (.tuple (goE k goal)) ∧ Below w.heap.size w w' := by
  by_cases hk : 4 ≤ k ∧ k ≤ 13
  · have G := fun f hf => Go_any (storeNone w) hT k f hf hk i goal count hi1 hi2 hg1 hg2 hc1 hc2
    rcases (by omega : k = 4 ∨ k = 5 ∨ k = 6 ∨ k = 7 ∨ k = 8 ∨ k = 9 ∨ k = 10 ∨ k = 11 ∨ k = 12 ∨ k = 13) with rfl | rfl | rfl | rfl | rfl | rfl | rfl | rfl | rfl | rfl
    · have := G _ (step_left none ⟨#[]⟩)
      rwa [goM_no 4 i goal count hk (by omega) (fun g => by simp [iprev])] at this
    · have := G _ (step_right none ⟨#[]⟩)
      rwa [goM_no 5 i goal count hk (by omega) (fun g => by rw [cnext_end (s := ⟨#[]⟩) (i := 0) (Nat.le_refl 0)]; rfl)] at this
    · have := G _ (step_wl0 none)
      rwa [goM_no 6 i goal count hk (by omega) (fun g => rfl)] at this
    · have := G _ (step_wr0 none)
      rwa [goM_no 7 i goal count hk (by omega) (fun g => rfl)] at this
    · have := G _ (step_start none ⟨#[]⟩)
      rwa [goM_yes 8 i goal count hk (by omega) (fun g => by rw [lbeg_empty])] at this
    · have := G _ (step_end none ⟨#[]⟩)
      rwa [goM_yes 9 i goal count hk (by omega) (fun g => by rw [nlq_empty, lend_empty])] at this
    · have := G _ (step_up none ⟨#[]⟩)
      rwa [goM_no 10 i goal count hk (by omega) (fun g => overM_empty _ _ (.inr rfl))] at this
    · have := G _ (step_down none ⟨#[]⟩)
      rwa [goM_no 11 i goal count hk (by omega) (fun g => overM_empty _ _ (.inl rfl))] at this
    · have := G _ (step_first none ⟨#[]⟩)
      rwa [goM_yes 12 i goal count hk (by omega) (fun g => rfl)] at this
    · have := G _ (step_last none ⟨#[]⟩)
      rwa [goM_yes 13 i goal count hk (by omega) (fun g => rfl)] at this
  · have := Go_none w none k hk i goal count
    rwa [show #[Value.int .i64 0, .int .i64 (-1), .int .i64 13] = goE k goal by unfold goE; rw [if_neg hk]] at this
/-- The error of a motion at the empty text. -/
def errE (k : Int) : Int := if 4 ≤ k ∧ k ≤ 13 then (if k = 8 ∨ k = 9 ∨ k = 12 ∨ k = 13 then 0 else 8) else 13
def goalE (k goal : Int) : Int := if 4 ≤ k ∧ k ≤ 13 then (if k = 8 ∨ k = 9 ∨ k = 12 ∨ k = 13 then -1 else max goal (-1)) else -1
theorem goE_is (k goal : Int) : goE k goal = #[.int .i64 0, .int .i64 (goalE k goal), .int .i64 (errE k)] := by
  unfold goE goalE errE; split
  · split <;> rfl
  · rfl
theorem Span0_any (w : World) (hT : Tabs w) (k i count : Int) (hi1 : -9223372036854775808 ≤ i) (hi2 : i ≤ 9223372036854775807) (hc1 : -9223372036854775808 ≤ count) (hc2 : count ≤ 9223372036854775807) :
    Calls Tryz.prog 21 #[.pointer none, .int .i64 k, .int .i64 i, .int .i64 count] w fun e w' => e = .returned (.tuple #[.agg #[.int .i64 0, .int .i64 0], .int .i64 (errE k)]) ∧ Below w.heap.size w w' := by
  have := mSpan_any (storeNone w) hT k i count 0 (goalE k (-1)) (errE k) hi1 hi2 (fun w1 hb => by
    have := Go0_any w1 (hT.of hb) k i (-1) count hi1 hi2 (by omega) (by omega) hc1 hc2
    rwa [goE_is] at this)
  rw [snapN_empty] at this
  refine this.mono fun e w' h => ⟨?_, h.2⟩
  rw [h.1]
  split
  · next h0 => rw [h0]; rfl
  · rfl
set_option maxRecDepth 100000 in
theorem Span16_any (k i count : Int) (w : World) (hi1 : -9223372036854775808 ≤ i) (hi2 : i ≤ 9223372036854775807) (hc1 : -9223372036854775808 ≤ count) (hc2 : count ≤ 9223372036854775807) :
    Calls Tryz.prog 22 #[.string ⟨#[]⟩, .int .i64 k, .int .i64 i, .int .i64 count] w fun e w' => e = .returned (.tuple #[.agg #[.int .i64 0, .int .i64 0], .int .i64 (errE k)]) ∧ Below w.heap.size w w' := by
  have hG : ∀ w, Calls Tryz.prog 20 #[.string ⟨#[]⟩, .int .i64 k, .int .i64 i, .int .i64 (-1), .int .i64 count] w fun e w' => e = .returned (.tuple #[.int .i64 0, .int .i64 (goalE k (-1)), .int .i64 (errE k)]) ∧ Below w.heap.size w w' := by
    intro w
    have := Go16_any k i (-1) count w hi1 hi2 (by omega) (by omega) hc1 hc2
    rwa [goE_is] at this
  have HG := Lib.hid hG
  have hS := Lib.hid (fun w => snap0_any i w hi1 hi2)
  clear hG
  generalize errE k = e at *
  by_cases he : e = 0
  · subst he
    go_enter Tryz.func22, Tryz.ntmps22
    go_wp2_with fail
    refine (HG.out _).mono ?_
    rintro x1 w1 ⟨rfl, hb1⟩
    have hB1 := below_of_alloc hb1
    go_wp2_with fail
    refine (hS.out _).mono ?_
    rintro x2 w2 ⟨rfl, hb2⟩
    have hB2 := below_from hB1 hb2
    have hg := block_via hb2 (block_via hb1 (alloc_get w _))
    have hn := block_lt hg
    have k0 := frozen_of_block hg
    have d0 : w2.cell? ⟨w.heap.size, 0, none⟩ = some _ := cell_of_block hg 0
    have d1 : w2.cell? ⟨w.heap.size, 1, none⟩ = some _ := cell_of_block hg 1
    clear hb1 hb2
    go_wp2_with fail
    refine bodyPost_ret (v := .tuple #[.agg #[.int .i64 0, .int .i64 0], .int .i64 0]) (by simp [results, Tryz.results22, go_sem, d0, d1, hn]) rfl ⟨rfl, ?_⟩
    exact (hB2.setCell (p := ⟨w.heap.size, 0, none⟩) (Nat.le_refl _) _).setCell (p := ⟨w.heap.size, 1, none⟩) (Nat.le_refl _) _
  · have f1 : (e != 0) = true := by simp [he]
    go_enter Tryz.func22, Tryz.ntmps22
    go_wp2_with fail
    refine (HG.out _).mono ?_
    rintro x1 w1 ⟨rfl, hb1⟩
    have hB1 := below_of_alloc hb1
    have hg := block_via hb1 (alloc_get w _)
    have hn := block_lt hg
    have k0 := frozen_of_block hg
    have d0 : w1.cell? ⟨w.heap.size, 0, none⟩ = some _ := cell_of_block hg 0
    have d1 : w1.cell? ⟨w.heap.size, 1, none⟩ = some _ := cell_of_block hg 1
    clear hb1
    go_wp2_with fail
    refine bodyPost_ret (v := .tuple #[.agg #[.int .i64 0, .int .i64 0], .int .i64 e]) (by simp [results, Tryz.results22, go_sem, d0, d1, hn]) rfl ⟨rfl, ?_⟩
    exact (hB1.setCell (p := ⟨w.heap.size, 0, none⟩) (Nat.le_refl _) _).setCell (p := ⟨w.heap.size, 1, none⟩) (Nat.le_refl _) _
theorem Column0_any (w : World) (hT : Tabs w) (i : Int) (hi1 : -9223372036854775808 ≤ i) (hi2 : i ≤ 9223372036854775807) :
    Calls Tryz.prog 16 #[.pointer none, .int .i64 i] w fun e w' => e = .returned (.int .i64 0) ∧ Below w.heap.size w w' := by
  have := mColumn_any (storeNone w) hT i hi1 hi2
  rwa [snapN_empty, show lcol ⟨#[]⟩ 0 = 0 by decide +kernel] at this
theorem Place0_any (w : World) (hT : Tabs w) (i col : Int) (hi1 : -9223372036854775808 ≤ i) (hi2 : i ≤ 9223372036854775807) (hc1 : -9223372036854775808 ≤ col) (hc2 : col ≤ 9223372036854775807) :
    Calls Tryz.prog 18 #[.pointer none, .int .i64 i, .int .i64 col] w fun e w' => e = .returned (.int .i64 0) ∧ Below w.heap.size w w' := by
  have := mPlace_any (storeNone w) hT i col hi1 hi2 hc1 hc2
  have h : placeM ⟨#[]⟩ i col = 0 := by
    unfold placeM
    have h1 := lat_le (s := ⟨#[]⟩) (l := (min (max i 0) ((lcount ⟨#[]⟩ : Int) - 1)).toNat) (by have := lcount_pos ⟨#[]⟩; omega) col
    have h2 := (lbeg_le_lend (s := ⟨#[]⟩) (l := (min (max i 0) ((lcount ⟨#[]⟩ : Int) - 1)).toNat) (by have := lcount_pos ⟨#[]⟩; omega)).2
    have h3 : (⟨#[]⟩ : ByteArray).size = 0 := rfl
    omega
  rwa [h] at this
end Go.Proofs.YtmelgecjaonbbaaGreatDoor
namespace Go.Proofs.YtmelgecjaonbbaaGreatDoor
open Go.RowKit Go.Bod

def EndsRel (w : World) (b : Nat) (k : Int) (v : Value) (wr : World) : Prop :=
  ∃ j : Nat, v = .int .i64 j ∧ j ≤ 4 ∧ wr.heap[b]? = some (.cells #[.int .i64 k, .int .i64 10, .int .i64 5, .int .i64 9] 28 (0, 0)) ∧ Below w.heap.size w wr
theorem kinds_at (k : Int) (j : Nat) (hj : j < 4) : ∃ x : Int, (#[Value.int .i64 k, .int .i64 10, .int .i64 5, .int .i64 9])[j]? = some (.int .i64 x) := by
  match j, hj with
  | 0, _ => exact ⟨_, rfl⟩
  | 1, _ => exact ⟨_, rfl⟩
  | 2, _ => exact ⟨_, rfl⟩
  | 3, _ => exact ⟨_, rfl⟩
set_option maxHeartbeats 2000000 in
set_option maxRecDepth 100000 in
theorem MoveEnds_any (k i goal count line : Int) (w : World) (hT : Tabs w) (hi1 : -9223372036854775808 ≤ i) (hi2 : i ≤ 9223372036854775807) (hg1 : -9223372036854775808 ≤ goal) (hg2 : goal ≤ 9223372036854775807)
    (hc1 : -9223372036854775808 ≤ count) (hc2 : count ≤ 9223372036854775807) (hl1 : -9223372036854775808 ≤ line) (hl2 : line ≤ 9223372036854775807) :
    Calls Tryz.prog 4 #[.int .i64 k, .int .i64 i, .int .i64 goal, .int .i64 count, .int .i64 line] w fun e w' => e = .returned (.bool true) ∧ Below w.heap.size w w' := by
  have hX := Lib.hid (goes_any theEx w hT)
  have hG := fun (w : World) (hT : Tabs w) (x : Int) => Go0_any w hT x i goal count hi1 hi2 hg1 hg2 hc1 hc2
  simp only [goE_is] at hG
  have hR := fun (w : World) (x : Int) => Go16_any x i goal count w hi1 hi2 hg1 hg2 hc1 hc2
  simp only [goE_is] at hR
  have HG := Lib.hid hG
  have HR := Lib.hid hR
  have HS := Lib.hid (fun (w : World) (hT : Tabs w) (x : Int) => Span0_any w hT x i count hi1 hi2 hc1 hc2)
  have HS' := Lib.hid (fun (w : World) (x : Int) => Span16_any x i count w hi1 hi2 hc1 hc2)
  have HC := Lib.hid (fun (w : World) (hT : Tabs w) => Column0_any w hT i hi1 hi2)
  have HP := Lib.hid (fun (w : World) (hT : Tabs w) => Place0_any w hT line goal hl1 hl2 hg1 hg2)
  clear hG hR
  go_enter Tryz.func4, Tryz.ntmps4
  go_wp2_with fail
  refine hX.out.mono ?_
  rintro x1 w1 ⟨rfl, hb1⟩
  go_wp2_with fail
  have hz := hb1.size
  go_loopw [29] (EndsRel w w1.heap.size k) (fun v _ => 4 - (RowKit.intOf v).toNat)
  case atStart => exact ⟨0, rfl, by omega, alloc_get _ _, below_alloc hb1 _⟩
  case round =>
    obtain ⟨j, rfl, hj, hblk, hB⟩ := hrel
    by_cases hlt : j < 4
    · obtain ⟨x, hx⟩ := kinds_at k j hlt
      have hc : wr.cell? ⟨w1.heap.size, j, none⟩ = some (.int .i64 x) := by rw [cell_of_block hblk]; exact hx
      have hzb := block_lt hblk
      have HK := Lib.hid hblk
      clear hx hblk
      go_wp2_with fail
      refine (HG.out _ (hT.of hB) x).mono ?_
      rintro x2 w2 ⟨rfl, hb2⟩
      have hB2 := below_from hB hb2
      go_wp2_with fail
      refine (HR.out _ x).mono ?_
      rintro x3 w3 ⟨rfl, hb3⟩
      have hB3 := below_from hB2 hb3
      go_wp2_with fail
      refine (HS.out _ (hT.of hB3) x).mono ?_
      rintro x4 w4 ⟨rfl, hb4⟩
      have hB4 := below_from hB3 hb4
      go_wp2_with fail
      refine (HS'.out _ x).mono ?_
      rintro x5 w5 ⟨rfl, hb5⟩
      have hq := block_via hb5 (alloc_get w4 _)
      have hB5 := below_of_alloc_from hB4 hb5
      have hk5 := block_via hb5 (block_old _ (block_via hb4 (block_via hb3 (block_via hb2 HK.out))))
      have c0 : w5.cell? ⟨w4.heap.size, 0, none⟩ = some (.int .i64 0) := cell_of_block hq 0
      have c1 : w5.cell? ⟨w4.heap.size, 1, none⟩ = some (.int .i64 0) := cell_of_block hq 1
      have hz4 : w4.heap.size < w5.heap.size := by have := hb5.size; simp at this; omega
      have hK5 := Lib.hid hk5
      clear hk5 hq
      go_wp2_with fail
      go_roundw
      case rel => exact ⟨j + 1, by go_num, by omega, hK5.out |> block_old _, below_alloc hB5 _⟩
      case measure => simp [RowKit.intOf]; omega
    · go_wp2_with fail
      refine (HC.out _ (hT.of hB)).mono ?_
      rintro x2 w2 ⟨rfl, hb2⟩
      have hB2 := below_from hB hb2
      go_wp2_with fail
      refine (HP.out _ (hT.of hB2)).mono ?_
      rintro x3 w3 ⟨rfl, hb3⟩
      have hB3 := below_from hB2 hb3
      go_wp2
      go_ret
      exact ⟨rfl, hB3⟩
end Go.Proofs.YtmelgecjaonbbaaGreatDoor
