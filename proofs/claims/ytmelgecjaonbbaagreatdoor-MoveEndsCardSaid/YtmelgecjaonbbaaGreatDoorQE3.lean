/- The walks of layer 6 (gap): what is asked of a buffer; The walks of layer 6 (gap): a piece, its summary, and a new buffer; Plain law: four bytes at each side tell whether a place is a boundary; The walks of layer 9 (store): what is asked of a store; The walks of layer 9 (store): a piece, its summary, and the text; The walks of layer 9 (store): boundaries; Plain laws on the lines of a text; The walks of layer 11 (lines): lengths, pieces, newlines, where a line begins; Plain laws: a piece of one byte; The walks of layer 11 (lines): where a line begins and ends; Plain laws: columns in a line; The walks of layer 11 (lines): a place's column. -/
import Derived.Test.YtmelgecjaonbbaaGreatDoorQE2
import Derived.Lib.QuietBelow
import Derived.Laws.Strings
set_option linter.unusedSimpArgs false
set_option linter.unusedVariables false
namespace Go.Proofs.YtmelgecjaonbbaaGreatDoor
open Go.RowKit Go.Bod

theorem held_any (n : Int) (w : World) (h1 : -9223372036854775808 ≤ n) (h2 : n ≤ 9223372036854775807) :
    Calls Tryz.prog 216 #[.int .i64 n] w fun e w' => e = .returned (.int .i64 (min (max n 0) 1073741824)) ∧ w = w' := by
  go_enter Tryz.func216, Tryz.ntmps216
  go_wp2
  go_ret
  exact ⟨rfl, rfl⟩

/-- A buffer in the heap: its block, the array's block, the array, the gap and the limit. -/
structure GapIs (w : World) (b rb : Nat) (r : ByteArray) (a z : Nat) (lim : Nat) : Prop where
  blk : w.heap[b]? = some (.cells #[.slice (some ⟨rb, 0, none⟩) r.size r.size, .int .i64 a, .int .i64 z, .int .i64 lim] 273 (0, 0))
  row : w.heap[rb]? = some (.cells (rowOf r) 5 (0, 0))
  az : a ≤ z
  zr : z ≤ r.size
  rs : r.size ≤ 4294967296
  lm : lim ≤ 1073741824
theorem GapIs.below {w w' : World} {b rb : Nat} {r : ByteArray} {a z lim : Nat} (h : GapIs w b rb r a z lim) (hb : Below w.heap.size w w') : GapIs w' b rb r a z lim :=
  ⟨block_via hb h.blk, block_via hb h.row, h.az, h.zr, h.rs, h.lm⟩

theorem gLen_any {w : World} {b rb : Nat} {r : ByteArray} {a z lim : Nat} (h : GapIs w b rb r a z lim) :
    Calls Tryz.prog 345 #[.pointer (some ⟨b, 0, none⟩)] w fun e w' => e = .returned (.int .i64 (gtext r a z).size) ∧ Below w.heap.size w w' := by
  have hv : ((r.size : Int) - ((z : Int) - a)) = ((gtext r a z).size : Nat) := by rw [gtext_size h.az h.zr]; have := h.az; have := h.zr; omega
  have haz := h.az
  have hzr := h.zr
  have hrs := h.rs
  generalize (gtext r a z).size = m at *
  have HV := Lib.hid hv
  clear hv
  have d0 : w.cell? ⟨b, 0, none⟩ = some (.slice (some ⟨rb, 0, none⟩) r.size r.size) := cell_of_block h.blk 0
  have d1 : w.cell? ⟨b, 1, none⟩ = some (.int .i64 a) := cell_of_block h.blk 1
  have d2 : w.cell? ⟨b, 2, none⟩ = some (.int .i64 z) := cell_of_block h.blk 2
  go_enter Tryz.func345, Tryz.ntmps345
  go_wp2_with fail
  go_quiet (fail)
  go_wp2
  go_ret
  exact ⟨by rw [← HV.out]; rfl, below_drewN (Below.refl _ _) _⟩

theorem convA {w : World} {rb : Nat} {r : ByteArray} (h : w.heap[rb]? = some (.cells (rowOf r) 5 (0, 0))) (lo hi : Nat) (h1 : lo ≤ hi) (h2 : hi ≤ r.size) (cap n : Nat) :
    (convert 211 9 (.slice (some ⟨rb, lo, none⟩) (hi - lo) cap)).run Tryz.prog (w.drewN n) = .ok (.string (r.extract lo hi)) (w.drewN n) := by
  have := conv5 (w.drewN n) rb lo (hi - lo) cap r 5 (0, 0) h (by omega)
  rwa [show lo + (hi - lo) = hi by omega] at this
theorem convB {w : World} {rb : Nat} {r : ByteArray} (h : w.heap[rb]? = some (.cells (rowOf r) 5 (0, 0))) (lo hi : Nat) (h0 : r.size = lo) (h1 : lo ≤ hi) (h2 : hi ≤ r.size) (cap n : Nat) :
    (convert 211 9 (.slice (some ⟨rb, 0, none⟩) (hi - lo) cap)).run Tryz.prog (w.drewN n) = .ok (.string (r.extract lo hi)) (w.drewN n) := by
  have := conv5 (w.drewN n) rb 0 (hi - lo) cap r 5 (0, 0) h (by omega)
  have he : r.extract 0 (0 + (hi - lo)) = r.extract lo hi := ?_
  · rw [this, he]
  apply ba_get; intro n
  simp only [get_extract]
  repeat' split
  all_goals first | rfl | omega

set_option maxRecDepth 100000 in
theorem gpiece_any {w : World} {b rb : Nat} {r : ByteArray} {a z lim : Nat} (h : GapIs w b rb r a z lim) (f t : Nat) (hft : f ≤ t) (ht : t ≤ (gtext r a z).size) :
    Calls Tryz.prog 350 #[.pointer (some ⟨b, 0, none⟩), .int .i64 f, .int .i64 t] w fun e w' => e = .returned (.string ((gtext r a z).extract f t)) ∧ Below w.heap.size w w' := by
  have haz := h.az
  have hzr := h.zr
  have hrs := h.rs
  have hrow := h.row
  have d0 : w.cell? ⟨b, 0, none⟩ = some (.slice (some ⟨rb, 0, none⟩) r.size r.size) := cell_of_block h.blk 0
  have d1 : w.cell? ⟨b, 1, none⟩ = some (.int .i64 a) := cell_of_block h.blk 1
  have d2 : w.cell? ⟨b, 2, none⟩ = some (.int .i64 z) := cell_of_block h.blk 2
  have hsz := gtext_size haz hzr
  clear h
  by_cases hta : t ≤ a
  · have hv := gap_low haz hzr hta (f := f)
    rw [hv]
    have HA := Lib.hid (convA hrow f t hft (by omega))
    have HB := Lib.hid (fun h0 => convB hrow f t h0 hft (by omega))
    have e1 : decide ((t : Int) ≤ a) = true := by simp; omega
    clear hv
    generalize r.extract f t = q at *
    generalize (gtext r a z).size = m at *
    go_enter Tryz.func350, Tryz.ntmps350
    go_wp2_with fail
    go_quiet (fail)
    go_wp2_with fail
    · have hh := HB.out h
      rw [hh]; go_wp2
      go_ret
      exact ⟨rfl, below_drewN (Below.refl _ _) _⟩
    · have hh := HA.out
      rw [hh]; go_wp2
      go_ret
      exact ⟨rfl, below_drewN (Below.refl _ _) _⟩
  · by_cases hfa : a ≤ f
    · have hv := gap_high haz hzr hfa ht
      rw [hv]
      have HA := Lib.hid (convA hrow (f + (z - a)) (t + (z - a)) (by omega) (by omega))
      have HB := Lib.hid (fun h0 => convB hrow (f + (z - a)) (t + (z - a)) h0 (by omega) (by omega))
      have e1 : decide ((t : Int) ≤ a) = false := by simp; omega
      have e2 : decide ((a : Int) ≤ f) = true := by simp; omega
      clear hv
      generalize r.extract (f + (z - a)) (t + (z - a)) = q at *
      generalize (gtext r a z).size = m at *
      go_enter Tryz.func350, Tryz.ntmps350
      go_wp2_with fail
      go_quiet (fail)
      go_wp2_with fail
      · have hh := HB.out h
        rw [hh]; go_wp2
        go_ret
        exact ⟨rfl, below_drewN (Below.refl _ _) _⟩
      · have hh := HA.out
        rw [hh]; go_wp2
        go_ret
        exact ⟨rfl, below_drewN (Below.refl _ _) _⟩
    · have hv := gap_mid haz hzr (by omega : f ≤ a) (by omega : a ≤ t) ht
      rw [hv]
      have hA := convA hrow f a (by omega) (by omega)
      have hB := convA hrow z (t + (z - a)) (by omega) (by omega)
      have e1 : decide ((t : Int) ≤ a) = false := by simp; omega
      have e2 : decide ((a : Int) ≤ f) = false := by simp; omega
      have g1 : f < r.size := by omega
      have g2 : z < r.size := by omega
      clear hv
      generalize (gtext r a z).size = m at *
      go_enter Tryz.func350, Tryz.ntmps350
      go_wp2_with fail
      go_quiet (fail)
      go_wp2_with fail
      go_quiet (fail)
      go_wp2
      go_ret
      exact ⟨rfl, below_drewN (below_drewN (Below.refl _ _) _) _⟩

/-- A buffer or none, and its text. -/
def GapAt (w : World) (p : Option Addr) (s : ByteArray) : Prop :=
  (p = none ∧ s = ⟨#[]⟩) ∨ ∃ (b rb : Nat) (r : ByteArray) (a z lim : Nat), p = some ⟨b, 0, none⟩ ∧ GapIs w b rb r a z lim ∧ s = gtext r a z
theorem GapAt.below {w w' : World} {p : Option Addr} {s : ByteArray} (h : GapAt w p s) (hb : Below w.heap.size w w') : GapAt w' p s := by
  rcases h with h | ⟨b, rb, r, a, z, lim, h1, h2, h3⟩
  · exact .inl h
  · exact .inr ⟨b, rb, r, a, z, lim, h1, h2.below hb, h3⟩
theorem GapAt.size {w : World} {p : Option Addr} {s : ByteArray} (h : GapAt w p s) : s.size ≤ 4294967296 := by
  rcases h with ⟨_, rfl⟩ | ⟨b, rb, r, a, z, lim, h1, h2, rfl⟩
  · exact Nat.zero_le _
  · rw [gtext_size h2.az h2.zr]; have := h2.rs; omega
theorem gLen_at {w : World} {p : Option Addr} {s : ByteArray} (h : GapAt w p s) :
    Calls Tryz.prog 345 #[.pointer p] w fun e w' => e = .returned (.int .i64 s.size) ∧ Below w.heap.size w w' := by
  rcases h with ⟨rfl, rfl⟩ | ⟨b, rb, r, a, z, lim, rfl, h2, rfl⟩
  · go_enter Tryz.func345, Tryz.ntmps345
    go_wp2
    go_ret
    exact ⟨rfl, Below.refl _ _⟩
  · exact gLen_any h2
theorem gpiece_at {w : World} {p : Option Addr} {s : ByteArray} (h : GapAt w p s) (f t : Nat) (hft : f ≤ t) (ht : t ≤ s.size) :
    Calls Tryz.prog 350 #[.pointer p, .int .i64 f, .int .i64 t] w fun e w' => e = .returned (.string (s.extract f t)) ∧ Below w.heap.size w w' := by
  rcases h with ⟨rfl, rfl⟩ | ⟨b, rb, r, a, z, lim, rfl, h2, rfl⟩
  · have he : (⟨#[]⟩ : ByteArray).extract f t = ⟨#[]⟩ := empty_of_size (by rw [size_ext]; exact Nat.sub_eq_zero_of_le (by have : (⟨#[]⟩ : ByteArray).size = 0 := rfl; omega))
    rw [he]
    go_enter Tryz.func350, Tryz.ntmps350
    go_wp2
    go_ret
    exact ⟨rfl, Below.refl _ _⟩
  · exact gpiece_any h2 f t hft ht
end Go.Proofs.YtmelgecjaonbbaaGreatDoor
namespace Go.Bod
open Go.RowKit
/-- What 'Slice' answers. -/
def sliceR (s : ByteArray) (f t : Int) : Array Value :=
  if 0 ≤ f ∧ f ≤ t ∧ t ≤ s.size then #[.string (s.extract f.toNat t.toNat), .int .i64 0] else #[.string ⟨#[]⟩, .int .i64 1]
/-- What 'Measure' answers. -/
def measureR (s : ByteArray) (f t : Int) : Array Value :=
  if 0 ≤ f ∧ f ≤ t ∧ t ≤ s.size then #[.agg (smVals (measure (s.extract f.toNat t.toNat))), .int .i64 0]
  else #[.agg #[.int .i64 0, .int .i64 0, .int .i64 0, .int .i64 0, .int .i64 0, .string ⟨#[]⟩, .string ⟨#[]⟩], .int .i64 1]
end Go.Bod
namespace Go.Proofs.YtmelgecjaonbbaaGreatDoor
open Go.RowKit Go.Bod

set_option maxRecDepth 100000 in
theorem gSlice_any {w : World} {p : Option Addr} {s : ByteArray} (h : GapAt w p s) (f t : Int)
    (hf1 : -9223372036854775808 ≤ f) (hf2 : f ≤ 9223372036854775807) (ht1 : -9223372036854775808 ≤ t) (ht2 : t ≤ 9223372036854775807) :
    Calls Tryz.prog 348 #[.pointer p, .int .i64 f, .int .i64 t] w fun e w' => e = .returned (.tuple (sliceR s f t)) ∧ Below w.heap.size w w' := by
  unfold sliceR
  have HL := Lib.hid (gLen_at h)
  have HP := Lib.hid (fun (w1 : World) (hb : Below w.heap.size w w1) => gpiece_at (h.below hb) f.toNat t.toNat)
  have hm := h.size
  clear h
  by_cases e1 : f < 0
  · have c1 : decide (f < 0) = true := by simp [e1]
    rw [if_neg (by omega)]
    go_enter Tryz.func348, Tryz.ntmps348
    go_wp2
    go_ret2
    exact ⟨rfl, Below.refl _ _⟩
  · have c1 : decide (f < 0) = false := by simp; omega
    by_cases e2 : t < f
    · have c2 : decide (t < f) = true := by simp [e2]
      rw [if_neg (by omega)]
      go_enter Tryz.func348, Tryz.ntmps348
      go_wp2
      go_ret2
      exact ⟨rfl, Below.refl _ _⟩
    · have c2 : decide (t < f) = false := by simp; omega
      by_cases e3 : (s.size : Int) < t
      · have c3 : decide ((s.size : Int) < t) = true := by simp [e3]
        rw [if_neg (by omega)]
        go_enter Tryz.func348, Tryz.ntmps348
        go_wp2_with fail
        refine HL.out.mono ?_
        rintro e w1 ⟨rfl, hb1⟩
        go_wp2
        go_ret2
        exact ⟨rfl, hb1⟩
      · have c3 : decide ((s.size : Int) < t) = false := by simp; omega
        rw [if_pos (by omega)]
        have hp := fun w1 hb => HP.out w1 hb (by omega) (by omega)
        rw [show ((f.toNat : Nat) : Int) = f by omega, show ((t.toNat : Nat) : Int) = t by omega] at hp
        generalize s.extract f.toNat t.toNat = q at *
        have HP := Lib.hid hp
        clear hp
        go_enter Tryz.func348, Tryz.ntmps348
        go_wp2_with fail
        refine HL.out.mono ?_
        rintro e w1 ⟨rfl, hb1⟩
        go_wp2_with fail
        refine (HP.out _ hb1).mono ?_
        rintro e w2 ⟨rfl, hb2⟩
        have hb2 := below_from hb1 hb2
        go_wp2
        go_ret2
        exact ⟨rfl, hb2⟩

set_option maxRecDepth 100000 in
theorem gMeasure_any {w : World} {p : Option Addr} {s : ByteArray} (h : GapAt w p s) (hT : Tabs w) (f t : Int)
    (hf1 : -9223372036854775808 ≤ f) (hf2 : f ≤ 9223372036854775807) (ht1 : -9223372036854775808 ≤ t) (ht2 : t ≤ 9223372036854775807) :
    Calls Tryz.prog 346 #[.pointer p, .int .i64 f, .int .i64 t] w fun e w' => e = .returned (.tuple (measureR s f t)) ∧ Below w.heap.size w w' := by
  have hsl := fun (w1 : World) (hb : Below w.heap.size w w1) => gSlice_any (h.below hb) f t hf1 hf2 ht1 ht2
  have hm := h.size
  clear h
  unfold measureR
  unfold sliceR at hsl
  by_cases e : 0 ≤ f ∧ f ≤ t ∧ t ≤ s.size
  · simp only [if_pos e] at hsl ⊢
    have hq : (s.extract f.toNat t.toNat).size ≤ 4294967296 := by rw [size_ext]; omega
    generalize s.extract f.toNat t.toNat = q at *
    have HS := Lib.hid hsl
    have HM := Lib.hid (fun w hT => Measure_any q w (by omega) hT)
    clear hsl
    obtain ⟨x1, x2, x3, x4, x5, x6, x7, hx⟩ : ∃ (x1 x2 x3 x4 x5 : Int) (x6 x7 : ByteArray), smVals (measure q) = #[.int .i64 x1, .int .i64 x2, .int .i64 x3, .int .i64 x4, .int .i64 x5, .string x6, .string x7] := ⟨_, _, _, _, _, _, _, rfl⟩
    rw [hx] at HM
    rw [hx]
    clear hx
    go_enter Tryz.func346, Tryz.ntmps346
    go_wp2_with fail
    refine (HS.out _ (below_alloc (Below.refl _ _) _)).mono ?_
    rintro e w1 ⟨rfl, hb1⟩
    have hb1' := below_of_alloc hb1
    go_wp2_with fail
    refine (HM.out _ (hT.of hb1')).mono ?_
    rintro e w2 ⟨rfl, hb2⟩
    have hb2a := below_from hb1 hb2
    have hb2' := below_from hb1' hb2
    have hg := block_via hb2a (alloc_get w _)
    have hn := block_lt hg
    have k0 := frozen_of_block hg
    have d0 : w2.cell? ⟨w.heap.size, 0, none⟩ = some _ := cell_of_block hg 0
    have d1 : w2.cell? ⟨w.heap.size, 1, none⟩ = some _ := cell_of_block hg 1
    have d2 : w2.cell? ⟨w.heap.size, 2, none⟩ = some _ := cell_of_block hg 2
    have d3 : w2.cell? ⟨w.heap.size, 3, none⟩ = some _ := cell_of_block hg 3
    have d4 : w2.cell? ⟨w.heap.size, 4, none⟩ = some _ := cell_of_block hg 4
    have d5 : w2.cell? ⟨w.heap.size, 5, none⟩ = some _ := cell_of_block hg 5
    have d6 : w2.cell? ⟨w.heap.size, 6, none⟩ = some _ := cell_of_block hg 6
    go_wp2_with fail
    refine bodyPost_ret (v := .tuple #[.agg #[.int .i64 x1, .int .i64 x2, .int .i64 x3, .int .i64 x4, .int .i64 x5, .string x6, .string x7], .int .i64 0]) (by simp [results, Tryz.results346, go_sem, d0, d1, d2, d3, d4, d5, d6, hn]) rfl ⟨rfl, ?_⟩
    exact ((((((hb2'.setCell (Nat.le_refl _) _).setCell (Nat.le_refl _) _).setCell (Nat.le_refl _) _).setCell (Nat.le_refl _) _).setCell (Nat.le_refl _) _).setCell (Nat.le_refl _) _).setCell (Nat.le_refl _) _
  · simp only [if_neg e] at hsl ⊢
    have HS := Lib.hid hsl
    clear hsl
    go_enter Tryz.func346, Tryz.ntmps346
    go_wp2_with fail
    refine (HS.out _ (below_alloc (Below.refl _ _) _)).mono ?_
    rintro e w1 ⟨rfl, hb1⟩
    have hb1' := below_of_alloc hb1
    have hg := block_via hb1 (alloc_get w _)
    have hn := block_lt hg
    have k0 := frozen_of_block hg
    have d0 : w1.cell? ⟨w.heap.size, 0, none⟩ = some _ := cell_of_block hg 0
    have d1 : w1.cell? ⟨w.heap.size, 1, none⟩ = some _ := cell_of_block hg 1
    have d2 : w1.cell? ⟨w.heap.size, 2, none⟩ = some _ := cell_of_block hg 2
    have d3 : w1.cell? ⟨w.heap.size, 3, none⟩ = some _ := cell_of_block hg 3
    have d4 : w1.cell? ⟨w.heap.size, 4, none⟩ = some _ := cell_of_block hg 4
    have d5 : w1.cell? ⟨w.heap.size, 5, none⟩ = some _ := cell_of_block hg 5
    have d6 : w1.cell? ⟨w.heap.size, 6, none⟩ = some _ := cell_of_block hg 6
    go_wp2_with fail
    refine bodyPost_ret (v := .tuple #[.agg #[.int .i64 0, .int .i64 0, .int .i64 0, .int .i64 0, .int .i64 0, .string ⟨#[]⟩, .string ⟨#[]⟩], .int .i64 1]) (by simp [results, Tryz.results346, go_sem, d0, d1, d2, d3, d4, d5, d6, hn]) rfl ⟨rfl, ?_⟩
    exact ((((((hb1'.setCell (Nat.le_refl _) _).setCell (Nat.le_refl _) _).setCell (Nat.le_refl _) _).setCell (Nat.le_refl _) _).setCell (Nat.le_refl _) _).setCell (Nat.le_refl _) _).setCell (Nat.le_refl _) _

theorem alloc_size (w : World) (o : Obj) : (w.alloc o).heap.size = w.heap.size + 1 := by simp
theorem _root_.Go.Bod.Mods.below_new {w w' : World} {o : Obj} (h : Mods (fun x => x = w.heap.size) (w.alloc o) w') : Below w.heap.size w w' :=
  ⟨h.os, h.tape, h.output, Nat.le_trans (by simp) h.size, fun k hk => (h.block k (by simp; omega) (by omega)).trans (Below.heap_alloc _ _ _ hk)⟩

theorem gNew_any (s : ByteArray) (w : World) (lim : Int) (h1 : -9223372036854775808 ≤ lim) (h2 : lim ≤ 9223372036854775807) (hs : (s.size : Int) ≤ min (max lim 0) 1073741824) :
    Calls Tryz.prog 186 #[.string s, .int .i64 lim] w fun e w' => e = .returned (.tuple #[.pointer (some ⟨w.heap.size, 0, none⟩), .int .i64 0]) ∧
      GapIs w' w.heap.size (w.heap.size + 1) (s ++ zerosB (max s.size 64 - s.size)) s.size (max s.size 64) (min (max lim 0) 1073741824).toNat ∧ gtext (s ++ zerosB (max s.size 64 - s.size)) s.size (max s.size 64) = s ∧ Below w.heap.size w w' := by
  have HH := Lib.hid (fun w => held_any lim w h1 h2)
  have hL : ∀ k : Nat, max s.size 64 ≤ k → k ≤ 4294967296 → ∀ (b : Nat) (x0 x1 x2 x3 : Value) (w : World), w.heap[b]? = some (.cells #[x0, x1, x2, x3] 273 (0, 0)) → Calls Tryz.prog 217 #[.pointer (some ⟨b, 0, none⟩), .string s, .string ⟨#[]⟩, .int .i64 k] w fun e w' => e = .returned (.tuple #[]) ∧ LayPost b s ⟨#[]⟩ k x3 w w' :=
    fun k hk hk2 b x0 x1 x2 x3 w hb => lay_any b s ⟨#[]⟩ k x0 x1 x2 x3 w (by have : (⟨#[]⟩ : ByteArray).size = 0 := rfl; omega) hk2 hb
  have HL := Lib.hid hL
  clear hL
  have c1 : decide (min (max lim 0) 1073741824 < (s.size : Int)) = false := by simp only [decide_eq_false_iff_not]; omega
  obtain ⟨m, hm⟩ : ∃ m : Nat, m = max s.size 64 := ⟨_, rfl⟩
  have hm' : max (s.size : Int) 64 = (m : Int) := by omega
  rw [← hm]
  go_enter Tryz.func186, Tryz.ntmps186
  go_wp2_with fail
  refine (HH.out _).mono ?_
  rintro e w1 ⟨rfl, rfl⟩
  go_wp2_with fail
  refine (HH.out _).mono ?_
  rintro e w1 ⟨rfl, rfl⟩
  go_wp2_with fail
  rw [← hm]
  refine (HL.out m (by omega) (by omega) _ _ _ _ _ _ (alloc_get w _)).mono ?_
  rintro e w2 ⟨rfl, hl⟩
  have hb := hl.2.2.below_new
  have hG : GapIs w2 w.heap.size (w.heap.size + 1) (s ++ zerosB (m - s.size)) s.size m (min (max lim 0) 1073741824).toNat := by
    obtain ⟨g1, g2, g3⟩ := hl
    have z0 : (⟨#[]⟩ : ByteArray).size = 0 := rfl
    have hsz : (s ++ zerosB (m - s.size)).size = m := by rw [size_append, zerosB_size]; omega
    refine ⟨?_, ?_, by omega, by omega, by omega, by omega⟩
    · rw [g1, hsz]; simp [z0]; omega
    · rw [← alloc_size w, g2, z0, append_empty, Nat.sub_zero]
  have hT : gtext (s ++ zerosB (m - s.size)) s.size m = s := by
    have := gtext_lay s ⟨#[]⟩ m (by have : (⟨#[]⟩ : ByteArray).size = 0 := rfl; omega)
    have z0 : (⟨#[]⟩ : ByteArray).size = 0 := rfl
    rwa [z0, append_empty, append_empty, Nat.sub_zero, Nat.sub_zero] at this
  clear hl
  go_wp2
  go_ret2
  exact ⟨rfl, hG, hT, hb⟩
end Go.Proofs.YtmelgecjaonbbaaGreatDoor
namespace Go.Bod
theorem dnw_near (s : ByteArray) (i : Nat) : i - 3 ≤ dnw s i := by
  by_cases h : dnw s i = i
  · omega
  · by_cases hs : ∃ j, j < i ∧ spn s i j = true
    · obtain ⟨j, hj, hs⟩ := hs
      rw [dnw_of_spn hj hs]; exact spn_near hj hs
    · exfalso; apply h; apply dnw_of_none; intro j hj
      cases hc : spn s i j with
      | false => rfl
      | true => exact absurd ⟨j, hj, hc⟩ hs
theorem uln_four (s : ByteArray) (j : Nat) : uln s j ≤ 4 := by
  by_cases h : 1 < uln s j
  · have := spn_near (s := s) (i := j + uln s j - 1) (j := j) (by omega) (by unfold spn; rw [decide_eq_true_iff]; omega)
    omega
  · omega
theorem dnw_extract {s : ByteArray} {a b i : Nat} (hi : a + i < b) (ha : a ≤ dnw s (a + i)) (hb : nc s b ∨ a + i + 4 ≤ b) : a + dnw (s.extract a b) i = dnw s (a + i) := by
  have h1 := dnw_ub s (a + i)
  have h2 := dnw_le s (a + i)
  have h3 := lt_dnw s (a + i)
  obtain ⟨j, hj⟩ := Nat.exists_eq_add_of_le ha
  rw [hj] at h1 h2 h3
  have hu : ub (s.extract a b) j := (ub_extract (by omega) (fun k hk => h1 k (by omega)) (by rcases hb with hb | hb; exact .inl hb; right; omega)).2 h1
  have hl : uln (s.extract a b) j = uln s (a + j) := uln_extract s a b j (by omega) (by rcases hb with hb | hb; exact .inl hb; right; omega)
  rw [dnw_unique hu (by omega) (by omega), hj]
theorem uprev_extract {s : ByteArray} {a b i : Nat} (h0 : 0 < i) (hi : a + i ≤ b) (ha : a ≤ dnw s (a + i - 1)) (hb : nc s b ∨ a + i + 3 ≤ b) : uprev (s.extract a b) i = uprev s (a + i) := by
  unfold uprev
  have e : a + i - 1 = a + (i - 1) := by omega
  rw [e] at ha ⊢
  have hd := dnw_extract (s := s) (a := a) (b := b) (i := i - 1) (by omega) ha (by rcases hb with hb | hb; exact .inl hb; right; omega)
  have := dnw_le s (a + (i - 1))
  rw [← hd]
  exact uch_extract s a b _ (by omega) (by rcases hb with hb | hb; exact .inl hb; right; omega)
/-- A place well inside a piece. -/
theorem cb_extract {s : ByteArray} {a b i : Nat} (h0 : 0 < i) (hi : a + i < b) (hb' : b ≤ s.size) (ha : a ≤ dnw s (a + i - 1)) (ha2 : ∀ j, j < a → j + uln s j ≤ a + i) (hb : nc s b ∨ a + i + 4 ≤ b) :
    cb (s.extract a b) i = cb s (a + i) := by
  have hsz : (s.extract a b).size = b - a := by rw [size_ext]; omega
  rw [cb_mid h0 (by omega), cb_mid (by omega) (by omega)]
  have e1 := ub_extract (s := s) (a := a) (b := b) (i := i) (by omega) ha2 (by rcases hb with hb | hb; exact .inl hb; right; omega)
  have e2 := uch_extract s a b i hi hb
  have e3 := uprev_extract (s := s) (a := a) (b := b) h0 (by omega) ha (by rcases hb with hb | hb; exact .inl hb; right; omega)
  rw [e2, e3]
  by_cases hu : ub s (a + i)
  · rw [decide_eq_true hu, decide_eq_true (e1.2 hu)]
  · rw [decide_eq_false hu, decide_eq_false (fun h => hu (e1.1 h))]
theorem cb_near {s : ByteArray} {i : Nat} (h0 : 0 < i) (hi : i < s.size) : cb (s.extract (i - 4) (min (i + 4) s.size)) (i - (i - 4)) = cb s i := by
  have e : i - 4 + (i - (i - 4)) = i := by omega
  have hn := dnw_near s (i - 1)
  have := cb_extract (s := s) (a := i - 4) (b := min (i + 4) s.size) (i := i - (i - 4)) (by omega) (by omega) (by omega) (by rw [e]; omega)
    (fun j hj => by have := uln_four s j; omega) (by by_cases h : i + 4 ≤ s.size; right; omega; left; left; omega)
  rw [e] at this
  exact this
end Go.Bod
namespace Go.Proofs.YtmelgecjaonbbaaGreatDoor
open Go.RowKit Go.Bod

/-- What is asked of a summary: its newlines. -/
def MeasOk (s : ByteArray) (f t : Int) (vs : Array Value) : Prop :=
  ∃ (x1 x2 x3 x4 x5 : Int) (x6 x7 : ByteArray) (y : Int), vs = #[.agg #[.int .i64 x1, .int .i64 x2, .int .i64 x3, .int .i64 x4, .int .i64 x5, .string x6, .string x7], .int .i64 y] ∧
    (0 ≤ f → f ≤ t → t ≤ s.size → x5 = nls (s.extract f.toNat t.toNat) ∧ y = 0)
theorem measOk_R (s : ByteArray) (f t : Int) : MeasOk s f t (measureR s f t) := by
  unfold measureR
  split
  · exact ⟨_, _, _, _, _, _, _, _, rfl, fun _ _ _ => ⟨rfl, rfl⟩⟩
  · exact ⟨_, _, _, _, _, _, _, _, rfl, fun a b c => by omega⟩
/-- What keeps a text answers by it wherever the blocks F lie as they lie here. -/
structure Keeps (F : Nat → Prop) (fl fs fm : Nat) (w : World) (p : Option Addr) (s : ByteArray) : Prop where
  dom : ∀ k, F k → k < w.heap.size
  len0 : ∀ w', (∀ k, F k → w'.heap[k]? = w.heap[k]?) → Calls Tryz.prog fl #[.pointer p] w' fun e w'' => e = .returned (.int .i64 s.size) ∧ Below w'.heap.size w' w''
  slice0 : ∀ w', (∀ k, F k → w'.heap[k]? = w.heap[k]?) → ∀ f t : Int, -9223372036854775808 ≤ f → f ≤ 9223372036854775807 → -9223372036854775808 ≤ t → t ≤ 9223372036854775807 →
    Calls Tryz.prog fs #[.pointer p, .int .i64 f, .int .i64 t] w' fun e w'' => e = .returned (.tuple (sliceR s f t)) ∧ Below w'.heap.size w' w''
  meas0 : ∀ w', (∀ k, F k → w'.heap[k]? = w.heap[k]?) → Tabs w' → ∀ f t : Int, -9223372036854775808 ≤ f → f ≤ 9223372036854775807 → -9223372036854775808 ≤ t → t ≤ 9223372036854775807 →
    Calls Tryz.prog fm #[.pointer p, .int .i64 f, .int .i64 t] w' fun e w'' => (∃ vs, e = .returned (.tuple vs) ∧ MeasOk s f t vs) ∧ Below w'.heap.size w' w''
theorem Keeps.same {F : Nat → Prop} {fl fs fm : Nat} {w w1 : World} {p : Option Addr} {s : ByteArray} (h : Keeps F fl fs fm w p s) (hs : ∀ k, F k → w1.heap[k]? = w.heap[k]?) : Keeps F fl fs fm w1 p s :=
  ⟨fun k hk => by
      have := h.dom k hk
      have h2 := hs k hk
      rw [Array.getElem?_eq_getElem this] at h2
      exact (Array.getElem?_eq_some_iff.1 h2).1,
    fun w' hb => h.len0 w' fun k hk => (hb k hk).trans (hs k hk), fun w' hb => h.slice0 w' fun k hk => (hb k hk).trans (hs k hk), fun w' hb => h.meas0 w' fun k hk => (hb k hk).trans (hs k hk)⟩
theorem Keeps.below {F : Nat → Prop} {fl fs fm : Nat} {w w1 : World} {p : Option Addr} {s : ByteArray} (h : Keeps F fl fs fm w p s) (hb : Below w.heap.size w w1) : Keeps F fl fs fm w1 p s :=
  h.same fun k hk => hb.block k (h.dom k hk)
theorem Keeps.len {F : Nat → Prop} {fl fs fm : Nat} {w : World} {p : Option Addr} {s : ByteArray} (h : Keeps F fl fs fm w p s) :
    Calls Tryz.prog fl #[.pointer p] w fun e w'' => e = .returned (.int .i64 s.size) ∧ Below w.heap.size w w'' := h.len0 w (fun _ _ => rfl)
theorem Keeps.slice {F : Nat → Prop} {fl fs fm : Nat} {w : World} {p : Option Addr} {s : ByteArray} (h : Keeps F fl fs fm w p s) (f t : Int) (h1 : -9223372036854775808 ≤ f) (h2 : f ≤ 9223372036854775807) (h3 : -9223372036854775808 ≤ t) (h4 : t ≤ 9223372036854775807) :
    Calls Tryz.prog fs #[.pointer p, .int .i64 f, .int .i64 t] w fun e w'' => e = .returned (.tuple (sliceR s f t)) ∧ Below w.heap.size w w'' := h.slice0 w (fun _ _ => rfl) f t h1 h2 h3 h4
theorem Keeps.meas {F : Nat → Prop} {fl fs fm : Nat} {w : World} {p : Option Addr} {s : ByteArray} (h : Keeps F fl fs fm w p s) (hT : Tabs w) (f t : Int) (h1 : -9223372036854775808 ≤ f) (h2 : f ≤ 9223372036854775807) (h3 : -9223372036854775808 ≤ t) (h4 : t ≤ 9223372036854775807) :
    Calls Tryz.prog fm #[.pointer p, .int .i64 f, .int .i64 t] w fun e w'' => (∃ vs, e = .returned (.tuple vs) ∧ MeasOk s f t vs) ∧ Below w.heap.size w w'' := h.meas0 w (fun _ _ => rfl) hT f t h1 h2 h3 h4
theorem GapIs.same {w w' : World} {b rb : Nat} {r : ByteArray} {a z lim : Nat} (h : GapIs w b rb r a z lim) (hs : ∀ k, k = b ∨ k = rb → w'.heap[k]? = w.heap[k]?) : GapIs w' b rb r a z lim :=
  ⟨(hs b (.inl rfl)).trans h.blk, (hs rb (.inr rfl)).trans h.row, h.az, h.zr, h.rs, h.lm⟩
theorem gap_keeps_nil (w : World) : Keeps (fun _ => False) 345 348 346 w none ⟨#[]⟩ :=
  ⟨fun _ h => h.elim, fun w' _ => gLen_at (.inl ⟨rfl, rfl⟩), fun w' _ f t a b c d => gSlice_any (.inl ⟨rfl, rfl⟩) f t a b c d, fun w' _ hT f t a b c d => (gMeasure_any (.inl ⟨rfl, rfl⟩) hT f t a b c d).mono fun e w1 h => ⟨⟨_, h.1, measOk_R _ _ _⟩, h.2⟩⟩
theorem gap_keeps {w : World} {b rb : Nat} {r : ByteArray} {a z lim : Nat} (h : GapIs w b rb r a z lim) :
    Keeps (fun k => k = b ∨ k = rb) 345 348 346 w (some ⟨b, 0, none⟩) (gtext r a z) :=
  ⟨fun k hk => by rcases hk with rfl | rfl; exact block_lt h.blk; exact block_lt h.row,
    fun w' hs => gLen_at (.inr ⟨_, _, _, _, _, _, rfl, h.same hs, rfl⟩), fun w' hs f t a b c d => gSlice_any (.inr ⟨_, _, _, _, _, _, rfl, h.same hs, rfl⟩) f t a b c d,
    fun w' hs hT f t a b c d => (gMeasure_any (.inr ⟨_, _, _, _, _, _, rfl, h.same hs, rfl⟩) hT f t a b c d).mono fun e w1 h => ⟨⟨_, h.1, measOk_R _ _ _⟩, h.2⟩⟩

/-- The value of a 'Text' that keeps a text, in the blocks F. -/
def TextOn (F : Nat → Prop) (w : World) (v : Value) (s : ByteArray) : Prop :=
  s.size ≤ 4294967296 ∧ ∃ p, (v = .iface 234 (.pointer p) ∧ Keeps F 345 348 346 w p s) ∨
    (v = .iface 229 (.pointer p) ∧ Keeps F 327 330 328 w p s)
theorem TextOn.same {F : Nat → Prop} {w w1 : World} {v : Value} {s : ByteArray} (h : TextOn F w v s) (hs : ∀ k, F k → w1.heap[k]? = w.heap[k]?) : TextOn F w1 v s := by
  obtain ⟨h0, p, h | h⟩ := h
  · exact ⟨h0, p, .inl ⟨h.1, h.2.same hs⟩⟩
  · exact ⟨h0, p, .inr ⟨h.1, h.2.same hs⟩⟩
/-- The value of a 'Text' that keeps a text. -/
def TextOk (w : World) (v : Value) (s : ByteArray) : Prop := ∃ F, TextOn F w v s
theorem TextOk.below {w w1 : World} {v : Value} {s : ByteArray} (h : TextOk w v s) (hb : Below w.heap.size w w1) : TextOk w1 v s := by
  obtain ⟨F, h0, p, h | h⟩ := h
  · exact ⟨F, h0, p, .inl ⟨h.1, h.2.below hb⟩⟩
  · exact ⟨F, h0, p, .inr ⟨h.1, h.2.below hb⟩⟩
/-- A store or none, and its text. -/
def StoreOk (w : World) (p : Option Addr) (s : ByteArray) : Prop :=
  s.size ≤ 4294967296 ∧ ((p = none ∧ s = ⟨#[]⟩) ∨ ∃ (b : Nat) (cs : Array Value) (v : Value), p = some ⟨b, 0, none⟩ ∧ w.heap[b]? = some (.cells cs 166 (0, 0)) ∧ cs[0]? = some v ∧ TextOk w v s)
theorem StoreOk.below {w w1 : World} {p : Option Addr} {s : ByteArray} (h : StoreOk w p s) (hb : Below w.heap.size w w1) : StoreOk w1 p s := by
  obtain ⟨h0, h | ⟨b, cs, v, h1, h2, h3, h4⟩⟩ := h
  · exact ⟨h0, .inl h⟩
  · exact ⟨h0, .inr ⟨b, cs, v, h1, block_via hb h2, h3, h4.below hb⟩⟩

theorem under_any {w : World} {p : Option Addr} {s : ByteArray} (h : StoreOk w p s) :
    Calls Tryz.prog 165 #[.pointer p] w fun e w' => (∃ v, e = .returned v ∧ TextOk w v s) ∧ w = w' := by
  obtain ⟨h0, ⟨rfl, rfl⟩ | ⟨b, cs, v, rfl, h2, h3, h4⟩⟩ := h
  · have hk := Lib.hid (gap_keeps_nil w)
    go_enter Tryz.func165, Tryz.ntmps165
    go_wp2
    go_ret
    exact ⟨⟨_, rfl, _, Nat.zero_le _, none, .inl ⟨rfl, hk.out⟩⟩, rfl⟩
  · have d0 : w.cell? ⟨b, 0, none⟩ = some v := by rw [cell_of_block h2]; exact h3
    have HT := Lib.hid h4
    obtain ⟨_, _, q, ⟨rfl, _⟩ | ⟨rfl, _⟩⟩ := h4
    · go_enter Tryz.func165, Tryz.ntmps165
      go_wp2
      go_ret
      exact ⟨⟨_, rfl, HT.out⟩, rfl⟩
    · go_enter Tryz.func165, Tryz.ntmps165
      go_wp2
      go_ret
      exact ⟨⟨_, rfl, HT.out⟩, rfl⟩

set_option maxRecDepth 100000 in
theorem sLen_any {w : World} {p : Option Addr} {s : ByteArray} (h : StoreOk w p s) :
    Calls Tryz.prog 93 #[.pointer p] w fun e w' => e = .returned (.int .i64 s.size) ∧ Below w.heap.size w w' := by
  have hu := Lib.hid (under_any h)
  clear h
  go_enter Tryz.func93, Tryz.ntmps93
  go_wp2_with fail
  refine hu.out.mono ?_
  rintro e w1 ⟨⟨v, rfl, hT⟩, rfl⟩
  obtain ⟨F, h0, q, ⟨rfl, hk⟩ | ⟨rfl, hk⟩⟩ := hT
  · go_wp2_with fail
    refine hk.len.mono ?_
    rintro e w1 ⟨rfl, hb⟩
    go_wp2
    go_ret
    exact ⟨rfl, hb⟩
  · go_wp2_with fail
    refine hk.len.mono ?_
    rintro e w1 ⟨rfl, hb⟩
    go_wp2
    go_ret
    exact ⟨rfl, hb⟩
end Go.Proofs.YtmelgecjaonbbaaGreatDoor
namespace Go.Proofs.YtmelgecjaonbbaaGreatDoor
open Go.RowKit Go.Bod

set_option maxRecDepth 100000 in
theorem sSlice_any {w : World} {p : Option Addr} {s : ByteArray} (h : StoreOk w p s) (f t : Int)
    (hf1 : -9223372036854775808 ≤ f) (hf2 : f ≤ 9223372036854775807) (ht1 : -9223372036854775808 ≤ t) (ht2 : t ≤ 9223372036854775807) :
    Calls Tryz.prog 83 #[.pointer p, .int .i64 f, .int .i64 t] w fun e w' => e = .returned (.tuple (sliceR s f t)) ∧ Below w.heap.size w w' := by
  have hu := Lib.hid (under_any h)
  clear h
  obtain ⟨x, y, hr⟩ : ∃ (x : ByteArray) (y : Int), sliceR s f t = #[.string x, .int .i64 y] := by unfold sliceR; split; exact ⟨_, _, rfl⟩; exact ⟨_, _, rfl⟩
  rw [hr]
  have HR := Lib.hid hr
  clear hr
  go_enter Tryz.func83, Tryz.ntmps83
  go_wp2_with fail
  refine hu.out.mono ?_
  rintro e w1 ⟨⟨v, rfl, hT⟩, rfl⟩
  obtain ⟨F, h0, q, ⟨rfl, hk⟩ | ⟨rfl, hk⟩⟩ := hT
  · go_wp2_with fail
    refine (hk.slice f t hf1 hf2 ht1 ht2).mono ?_
    rintro e w1 ⟨rfl, hb⟩
    rw [HR.out]
    go_wp2
    go_ret2
    exact ⟨rfl, hb⟩
  · go_wp2_with fail
    refine (hk.slice f t hf1 hf2 ht1 ht2).mono ?_
    rintro e w1 ⟨rfl, hb⟩
    rw [HR.out]
    go_wp2
    go_ret2
    exact ⟨rfl, hb⟩

set_option maxRecDepth 100000 in
theorem sMeasure_any {w : World} {p : Option Addr} {s : ByteArray} (h : StoreOk w p s) (hT : Tabs w) (f t : Int)
    (hf1 : -9223372036854775808 ≤ f) (hf2 : f ≤ 9223372036854775807) (ht1 : -9223372036854775808 ≤ t) (ht2 : t ≤ 9223372036854775807) :
    Calls Tryz.prog 316 #[.pointer p, .int .i64 f, .int .i64 t] w fun e w' => (∃ vs, e = .returned (.tuple vs) ∧ MeasOk s f t vs) ∧ Below w.heap.size w w' := by
  have hu := Lib.hid (under_any (h.below (below_alloc (Below.refl _ _) (.cells #[.int .i64 0, .int .i64 0, .int .i64 0, .int .i64 0, .int .i64 0, .string ⟨#[]⟩, .string ⟨#[]⟩] 242 (0, 0)))))
  clear h
  go_enter Tryz.func316, Tryz.ntmps316
  go_wp2_with fail
  refine hu.out.mono ?_
  rintro e w1 ⟨⟨v, rfl, hX⟩, rfl⟩
  have hT1 := hT.alloc (.cells #[.int .i64 0, .int .i64 0, .int .i64 0, .int .i64 0, .int .i64 0, .string ⟨#[]⟩, .string ⟨#[]⟩] 242 (0, 0))
  obtain ⟨F, h0, q, ⟨rfl, hk⟩ | ⟨rfl, hk⟩⟩ := hX
  all_goals
    go_wp2_with fail
    refine (hk.meas hT1 f t hf1 hf2 ht1 ht2).mono ?_
    rintro e w1 ⟨⟨vs, rfl, x1, x2, x3, x4, x5, x6, x7, y, rfl, hx⟩, hb1⟩
    have HX := Lib.hid hx
    clear hx
    have hb1' := below_of_alloc hb1
    have hg := block_via hb1 (alloc_get w _)
    have hn := block_lt hg
    have k0 := frozen_of_block hg
    have d0 : w1.cell? ⟨w.heap.size, 0, none⟩ = some _ := cell_of_block hg 0
    have d1 : w1.cell? ⟨w.heap.size, 1, none⟩ = some _ := cell_of_block hg 1
    have d2 : w1.cell? ⟨w.heap.size, 2, none⟩ = some _ := cell_of_block hg 2
    have d3 : w1.cell? ⟨w.heap.size, 3, none⟩ = some _ := cell_of_block hg 3
    have d4 : w1.cell? ⟨w.heap.size, 4, none⟩ = some _ := cell_of_block hg 4
    have d5 : w1.cell? ⟨w.heap.size, 5, none⟩ = some _ := cell_of_block hg 5
    have d6 : w1.cell? ⟨w.heap.size, 6, none⟩ = some _ := cell_of_block hg 6
    go_wp2_with fail
    refine bodyPost_ret (v := .tuple #[.agg #[.int .i64 x1, .int .i64 x2, .int .i64 x3, .int .i64 x4, .int .i64 x5, .string x6, .string x7], .int .i64 y]) (by simp [results, Tryz.results316, go_sem, d0, d1, d2, d3, d4, d5, d6, hn]) rfl ⟨⟨_, rfl, _, _, _, _, _, _, _, _, rfl, HX.out⟩, ?_⟩
    exact ((((((hb1'.setCell (Nat.le_refl _) _).setCell (Nat.le_refl _) _).setCell (Nat.le_refl _) _).setCell (Nat.le_refl _) _).setCell (Nat.le_refl _) _).setCell (Nat.le_refl _) _).setCell (Nat.le_refl _) _

theorem StoreOk.size {w : World} {p : Option Addr} {s : ByteArray} (h : StoreOk w p s) : s.size ≤ 4294967296 := h.1
theorem sliceR_in {s : ByteArray} {f t : Int} (h1 : 0 ≤ f) (h2 : f ≤ t) (h3 : t ≤ s.size) : sliceR s f t = #[.string (s.extract f.toNat t.toNat), .int .i64 0] := by
  unfold sliceR; rw [if_pos ⟨h1, h2, h3⟩]
set_option maxRecDepth 100000 in
theorem sText_any {w : World} {p : Option Addr} {s : ByteArray} (h : StoreOk w p s) :
    Calls Tryz.prog 47 #[.pointer p] w fun e w' => e = .returned (.string s) ∧ Below w.heap.size w w' := by
  have hsz := h.size
  have hL := Lib.hid (sLen_any h)
  have hs := fun (w1 : World) (hb : Below w.heap.size w w1) => sSlice_any (h.below hb) 0 s.size (by omega) (by omega) (by omega) (by omega)
  rw [sliceR_in (by omega) (by omega) (by omega), Int.toNat_natCast, show (0 : Int).toNat = 0 from rfl, extract_all] at hs
  have HS := Lib.hid hs
  clear hs h
  go_enter Tryz.func47, Tryz.ntmps47
  go_wp2_with fail
  refine hL.out.mono ?_
  rintro e w1 ⟨rfl, hb1⟩
  go_wp2_with fail
  refine (HS.out _ hb1).mono ?_
  rintro e w2 ⟨rfl, hb2⟩
  go_wp2
  go_ret
  exact ⟨rfl, below_from hb1 hb2⟩
end Go.Proofs.YtmelgecjaonbbaaGreatDoor
namespace Go.Bod
/-- What 'Boundary' answers at a number. -/
def ibd (s : ByteArray) (i : Int) : Bool := decide (0 ≤ i) && cb s i.toNat
/-- What 'Next' answers. -/
def inext (s : ByteArray) (i : Int) : Int := if i < 0 then 0 else cnext s i.toNat
/-- What 'Prev' answers. -/
def iprev (s : ByteArray) (i : Int) : Int := if i ≤ 0 then 0 else if s.size < i then s.size else cprev s i.toNat
/-- What 'Snap' answers. -/
def isnap (s : ByteArray) (i : Int) : Int := if i < 0 then 0 else csnap s i.toNat
end Go.Bod
namespace Go.Proofs.YtmelgecjaonbbaaGreatDoor
open Go.RowKit Go.Bod

set_option maxRecDepth 100000 in
theorem sBoundary_any {w : World} {p : Option Addr} {s : ByteArray} (h : StoreOk w p s) (hT : Tabs w) (i : Int) (h1 : -9223372036854775808 ≤ i) (h2 : i ≤ 9223372036854775807) :
    Calls Tryz.prog 168 #[.pointer p, .int .i64 i] w fun e w' => e = .returned (.bool (ibd s i)) ∧ Below w.heap.size w w' := by
  have hsz := h.size
  have hL := Lib.hid (sLen_any h)
  by_cases c1 : i ≤ 0
  · by_cases c0 : i = 0
    · subst c0
      have hr : ibd s 0 = true := by simp [ibd, cb_zero]
      have HR := Lib.hid hr
      clear hr h
      go_enter Tryz.func168, Tryz.ntmps168
      go_wp2_with fail
      refine hL.out.mono ?_
      rintro e w1 ⟨rfl, hb1⟩
      go_wp2
      go_ret
      exact ⟨ret_b (by rw [HR.out]), hb1⟩
    · have hr : ibd s i = false := by simp [ibd]; intro; omega
      have HR := Lib.hid hr
      have e1 : decide (i ≤ 0) = true := by simp [c1]
      have e2 : (i == 0) = false := by simp [c0]
      have e3 : (i == (s.size : Int)) = false := by simp; omega
      clear hr h
      go_enter Tryz.func168, Tryz.ntmps168
      go_wp2_with fail
      refine hL.out.mono ?_
      rintro e w1 ⟨rfl, hb1⟩
      go_wp2
      go_ret
      exact ⟨ret_b (by rw [HR.out]), hb1⟩
  · have e1 : decide (i ≤ 0) = false := by simp; omega
    have e2 : (i == 0) = false := by simp; omega
    by_cases c2 : (s.size : Int) ≤ i
    · have e4 : decide ((s.size : Int) ≤ i) = true := by simp [c2]
      have hr : ibd s i = (i == (s.size : Int)) := by
        obtain ⟨k, rfl⟩ := Int.eq_ofNat_of_zero_le (show 0 ≤ i by omega)
        simp only [ibd, Int.toNat_natCast]
        by_cases hk : k = s.size
        · subst hk; simp [cb_size]
        · rw [cb_big (by omega)]; simp; omega
      have HR := Lib.hid hr
      clear hr h
      go_enter Tryz.func168, Tryz.ntmps168
      go_wp2_with fail
      refine hL.out.mono ?_
      rintro e w1 ⟨rfl, hb1⟩
      go_wp2
      go_ret
      exact ⟨ret_b (by rw [HR.out]), hb1⟩
    · have e4 : decide ((s.size : Int) ≤ i) = false := by simp; omega
      obtain ⟨k, rfl⟩ := Int.eq_ofNat_of_zero_le (show 0 ≤ i by omega)
      have hr : ibd s k = cb s k := by simp [ibd]
      rw [hr]
      have hn := cb_near (s := s) (i := k) (by omega) (by omega)
      have hS := fun (w1 : World) (hb : Below w.heap.size w w1) => sSlice_any (h.below hb) (max ((k : Int) - 4) 0) (min ((k : Int) + 4) s.size) (by omega) (by omega) (by omega) (by omega)
      rw [sliceR_in (by omega) (by omega) (by omega), show (max ((k : Int) - 4) 0).toNat = k - 4 by omega, show (min ((k : Int) + 4) s.size).toNat = min (k + 4) s.size by omega] at hS
      have hq : (s.extract (k - 4) (min (k + 4) s.size)).size ≤ 4294967296 := by rw [size_ext]; omega
      generalize s.extract (k - 4) (min (k + 4) s.size) = q at *
      have hB := fun (w1 : World) (hT : Tabs w1) => cBoundary_any q ((k : Int) - max ((k : Int) - 4) 0) w1 (by omega) (by omega) (by omega) hT
      rw [show ((k : Int) - max ((k : Int) - 4) 0).toNat = k - (k - 4) by omega, hn] at hB
      generalize cb s k = r at *
      have HS := Lib.hid hS
      have HB := Lib.hid hB
      clear hr hn hS hB h
      go_enter Tryz.func168, Tryz.ntmps168
      go_wp2_with fail
      refine hL.out.mono ?_
      rintro e w1 ⟨rfl, hb1⟩
      go_wp2_with fail
      refine (HS.out _ hb1).mono ?_
      rintro e w2 ⟨rfl, hb2⟩
      have hb2 := below_from hb1 hb2
      go_wp2_with fail
      refine (HB.out _ (hT.of hb2)).mono ?_
      rintro e w3 ⟨rfl, hb3⟩
      go_wp2
      go_ret
      exact ⟨rfl, below_from hb2 hb3⟩

/-- Between two rounds of Next. -/
def SNextRel (s : ByteArray) (i : Nat) (w : World) (v : Value) (wr : World) : Prop :=
  ∃ j : Nat, v = .int .i64 j ∧ i ≤ j ∧ (j ≤ s.size ∨ j = i) ∧ (∀ t, i < t → t ≤ j → cb s t = false) ∧ Below w.heap.size w wr

set_option maxRecDepth 100000 in
theorem sNext_any {w : World} {p : Option Addr} {s : ByteArray} (h : StoreOk w p s) (hT : Tabs w) (i : Int) (hi1 : -9223372036854775808 ≤ i) (hi2 : i ≤ 9223372036854775807) :
    Calls Tryz.prog 169 #[.pointer p, .int .i64 i] w fun e w' => e = .returned (.int .i64 (inext s i)) ∧ Below w.heap.size w w' := by
  have hsz := h.size
  have hL := Lib.hid (sLen_any h)
  by_cases c1 : i < 0
  · have e1 : decide (i < 0) = true := by simp [c1]
    unfold inext
    rw [if_pos c1]
    clear h
    go_enter Tryz.func169, Tryz.ntmps169
    go_wp2
    go_ret
    exact ⟨rfl, Below.refl _ _⟩
  · have e1 : decide (i < 0) = false := by simp; omega
    unfold inext
    rw [if_neg c1]
    obtain ⟨i, rfl⟩ := Int.eq_ofNat_of_zero_le (show 0 ≤ i by omega)
    rw [Int.toNat_natCast]
    go_enter Tryz.func169, Tryz.ntmps169
    go_wp2_with fail
    refine hL.out.mono ?_
    rintro e w0 ⟨rfl, hb0⟩
    go_wp2
    go_loopw [6] (SNextRel s i w) (fun v _ => s.size - (RowKit.intOf v).toNat)
    case atStart => exact ⟨i, rfl, Nat.le_refl _, .inr rfl, fun t a b => by omega, hb0⟩
    case round =>
      obtain ⟨j, rfl, h1, h2, h3, hB⟩ := hrel
      have H3 := Lib.hid h3
      clear h3
      by_cases hlt : j < s.size
      · have hT2 := hT.of hB
        have hbd := sBoundary_any (h.below hB) hT2 ((j : Int) + 1) (by omega) (by omega)
        rw [show ibd s ((j : Int) + 1) = cb s (j + 1) by simp [ibd]; omega] at hbd
        have HB := Lib.hid hbd
        clear hbd
        cases hc : cb s (j + 1)
        · have HC := Lib.hid hc
          clear hc
          go_wp2_with fail
          refine HB.out.mono ?_
          rintro e w2 ⟨rfl, hb2⟩
          rw [HC.out]
          go_wp2
          go_roundw
          case rel =>
            refine ⟨j + 1, rfl, by omega, .inl (by omega), fun t a b => ?_, below_from hB hb2⟩
            by_cases ht : t ≤ j
            · exact H3.out t a ht
            · rw [show t = j + 1 by omega]; exact HC.out
          case measure => simp [RowKit.intOf]; omega
        · have hr : cnext s i = j + 1 := cnext_eq (by omega) hc fun t a b => H3.out t a (by omega)
          have HC := Lib.hid hc
          have HR := Lib.hid hr
          clear hc hr
          go_wp2_with fail
          refine HB.out.mono ?_
          rintro e w2 ⟨rfl, hb2⟩
          rw [HC.out]
          go_wp2
          go_ret
          exact ⟨ret_i (by rw [HR.out]; simp), below_from hB hb2⟩
      · have hr : cnext s i = s.size := by
          refine cnext_end ?_
          rcases Nat.lt_or_ge i s.size with hl | hl
          · have := H3.out s.size hl (by omega)
            rw [cb_size] at this; cases this
          · exact hl
        have HR := Lib.hid hr
        clear hr
        go_wp2
        go_ret
        exact ⟨ret_i (by rw [HR.out]), hB⟩

/-- Between two rounds of Prev. -/
def SPrevRel (s : ByteArray) (i : Nat) (w : World) (v : Value) (wr : World) : Prop :=
  ∃ j : Nat, v = .int .i64 j ∧ j < i ∧ (∀ t, j < t → t < i → cb s t = false) ∧ Below w.heap.size w wr

set_option maxRecDepth 100000 in
theorem sPrev_any {w : World} {p : Option Addr} {s : ByteArray} (h : StoreOk w p s) (hT : Tabs w) (i : Int) (hi1 : -9223372036854775808 ≤ i) (hi2 : i ≤ 9223372036854775807) :
    Calls Tryz.prog 218 #[.pointer p, .int .i64 i] w fun e w' => e = .returned (.int .i64 (iprev s i)) ∧ Below w.heap.size w w' := by
  have hsz := h.size
  have hL := Lib.hid (sLen_any h)
  by_cases c1 : i ≤ 0
  · have e1 : decide (i ≤ 0) = true := by simp [c1]
    unfold iprev
    rw [if_pos c1]
    clear h
    go_enter Tryz.func218, Tryz.ntmps218
    go_wp2
    go_ret
    exact ⟨rfl, Below.refl _ _⟩
  · have e1 : decide (i ≤ 0) = false := by simp; omega
    unfold iprev
    rw [if_neg c1]
    by_cases c2 : (s.size : Int) < i
    · have e2 : decide ((s.size : Int) < i) = true := by simp [c2]
      rw [if_pos c2]
      clear h
      go_enter Tryz.func218, Tryz.ntmps218
      go_wp2_with fail
      refine hL.out.mono ?_
      rintro e w0 ⟨rfl, hb0⟩
      go_wp2
      go_ret
      exact ⟨rfl, hb0⟩
    · have e2 : decide ((s.size : Int) < i) = false := by simp; omega
      rw [if_neg c2]
      obtain ⟨i, rfl⟩ := Int.eq_ofNat_of_zero_le (show 0 ≤ i by omega)
      rw [Int.toNat_natCast]
      have hd0 : decide (s.size < i) = false := decide_eq_false (by omega)
      clear e2
      go_enter Tryz.func218, Tryz.ntmps218
      go_wp2_with fail
      refine hL.out.mono ?_
      rintro e w0 ⟨rfl, hb0⟩
      go_wp2
      go_loopw [6] (SPrevRel s i w) (fun v _ => (RowKit.intOf v).toNat)
      case atStart => exact ⟨i - 1, by congr 1; omega, by omega, fun t a b => by omega, hb0⟩
      case round =>
        obtain ⟨j, rfl, h1, h3, hB⟩ := hrel
        have H3 := Lib.hid h3
        clear h3
        by_cases hlt : 0 < j
        · have hT2 := hT.of hB
          have hbd := sBoundary_any (h.below hB) hT2 (j : Int) (by omega) (by omega)
          rw [show ibd s (j : Int) = cb s j by simp [ibd]] at hbd
          have HB := Lib.hid hbd
          clear hbd
          cases hc : cb s j
          · have HC := Lib.hid hc
            clear hc
            go_wp2_with fail
            refine HB.out.mono ?_
            rintro e w2 ⟨rfl, hb2⟩
            rw [HC.out]
            go_wp2
            go_roundw
            case rel =>
              refine ⟨j - 1, by congr 1; omega, by omega, fun t a b => ?_, below_from hB hb2⟩
              by_cases ht : j < t
              · exact H3.out t ht b
              · rw [show t = j by omega]; exact HC.out
            case measure => simp [RowKit.intOf]; omega
          · have hr : cprev s i = j := prevP_eq h1 (.inl hc) fun t a b => H3.out t a b
            have HC := Lib.hid hc
            have HR := Lib.hid hr
            clear hc hr
            go_wp2_with fail
            refine HB.out.mono ?_
            rintro e w2 ⟨rfl, hb2⟩
            rw [HC.out]
            go_wp2
            go_ret
            exact ⟨ret_i (by rw [HR.out]), below_from hB hb2⟩
        · have hr : cprev s i = 0 := prevP_eq (by omega) (.inr rfl) fun t a b => H3.out t (by omega) b
          have HR := Lib.hid hr
          clear hr
          go_wp2
          go_ret
          exact ⟨ret_i (by rw [HR.out]; rfl), hB⟩

theorem sSnap_any {w : World} {p : Option Addr} {s : ByteArray} (h : StoreOk w p s) (hT : Tabs w) (i : Int) (hi1 : -9223372036854775808 ≤ i) (hi2 : i ≤ 9223372036854775807) :
    Calls Tryz.prog 87 #[.pointer p, .int .i64 i] w fun e w' => e = .returned (.int .i64 (isnap s i)) ∧ Below w.heap.size w w' := by
  have hB := Lib.hid (sBoundary_any h hT i hi1 hi2)
  have hN := Lib.hid (fun (w1 : World) (hb : Below w.heap.size w w1) => sNext_any (h.below hb) (hT.of hb) i hi1 hi2)
  have hd : isnap s i = if ibd s i = true then i else inext s i := by
    unfold isnap ibd inext csnap
    by_cases c : i < 0
    · simp [c]; omega
    · have : 0 ≤ i := by omega
      rw [if_neg c, if_neg c, decide_eq_true this, Bool.true_and]
      split <;> omega
  have HD := Lib.hid hd
  clear h hd
  generalize isnap s i = r at *
  generalize inext s i = n at *
  cases hc : ibd s i
  all_goals
    have HC := Lib.hid hc
    clear hc
    go_enter Tryz.func87, Tryz.ntmps87
    go_wp2_with fail
    refine hB.out.mono ?_
    rintro e w1 ⟨rfl, hb1⟩
    rw [HC.out]
    have hd := HD.out
    rw [HC.out] at hd
  · go_wp2_with fail
    refine (hN.out _ hb1).mono ?_
    rintro e w2 ⟨rfl, hb2⟩
    go_wp2
    go_ret
    exact ⟨ret_i (by rw [hd]; rfl), below_from hb1 hb2⟩
  · go_wp2
    go_ret
    exact ⟨ret_i (by rw [hd]; rfl), hb1⟩
end Go.Proofs.YtmelgecjaonbbaaGreatDoor
namespace Go.Bod
/-- The LF ahead of a place. -/
def nlq (s : ByteArray) (k : Nat) : Nat := (s.data.toList.take k).count 10
theorem nls_extract (s : ByteArray) (k : Nat) : nls (s.extract 0 k) = nlq s k := by
  unfold nls nlq Lib.countByte; rw [toList_extract, List.drop_zero]
theorem nlq_zero (s : ByteArray) : nlq s 0 = 0 := by simp [nlq]
theorem nlq_succ {s : ByteArray} {k : Nat} (h : k < s.size) : nlq s (k + 1) = nlq s k + if bt s k = 10 then 1 else 0 := by
  unfold nlq
  have hk : k < s.data.toList.length := by rw [size_toList]; exact h
  rw [List.take_add_one, List.count_append, List.getElem?_eq_getElem hk]
  congr 1
  have hb : bt s k = (s.data.toList[k]).toNat := by
    unfold bt; rw [get!_lt _ _ h, Array.getElem_toList]; rfl
  rw [hb]
  simp only [Option.toList_some, List.count_singleton, beq_iff_eq]
  have : (s.data.toList[k] = 10) ↔ (s.data.toList[k].toNat = 10) := ⟨fun e => by rw [e]; rfl, fun e => UInt8.toNat_inj.1 (by rw [e]; rfl)⟩
  by_cases hc : s.data.toList[k] = 10
  · rw [if_pos hc, if_pos (this.1 hc)]
  · rw [if_neg hc, if_neg (fun h => hc (this.2 h))]
theorem nlq_ge {s : ByteArray} {k : Nat} (h : s.size ≤ k) : nlq s k = nlq s s.size := by
  unfold nlq; rw [List.take_of_length_le (by rw [size_toList]; exact h), List.take_of_length_le (by rw [size_toList]; exact Nat.le_refl _)]
theorem nlq_mono (s : ByteArray) {i j : Nat} (h : i ≤ j) : nlq s i ≤ nlq s j := by
  induction j with
  | zero => rw [show i = 0 by omega]; exact Nat.le_refl _
  | succ j ih =>
    by_cases hi : i = j + 1
    · subst hi; exact Nat.le_refl _
    · refine Nat.le_trans (ih (by omega)) ?_
      by_cases hj : j < s.size
      · rw [nlq_succ hj]; omega
      · rw [nlq_ge (k := j) (by omega), nlq_ge (k := j + 1) (by omega)]; exact Nat.le_refl _
theorem nlq_le (s : ByteArray) (k : Nat) : nlq s k ≤ k := by
  unfold nlq; exact Nat.le_trans (List.count_le_length ..) (by rw [List.length_take]; omega)
/-- The number of lines. -/
def lcount (s : ByteArray) : Nat := nlq s s.size + 1
/-- Where a line begins: the least place with so many LF ahead of it. -/
def lbeg (s : ByteArray) (l : Nat) : Nat := ((List.range s.size).find? fun k => decide (l ≤ nlq s k)).getD s.size
theorem lbeg_least (s : ByteArray) (l : Nat) : lbeg s l ≤ s.size ∧ (∀ t, t < lbeg s l → nlq s t < l) ∧ (∀ t, lbeg s l ≤ t → t < s.size → l ≤ nlq s t) := by
  unfold lbeg
  cases hf : (List.range s.size).find? fun k => decide (l ≤ nlq s k) with
  | none =>
    rw [List.find?_eq_none] at hf
    refine ⟨Nat.le_refl _, fun t ht => ?_, fun t h1 h2 => by simp at h1; omega⟩
    have := hf t (List.mem_range.2 ht)
    simp at this; omega
  | some r =>
    rw [List.find?_range_eq_some] at hf
    obtain ⟨h1, h2, h3⟩ := hf
    simp at h1 h2 h3
    refine ⟨by simp; omega, fun t ht => ?_, fun t ht1 ht2 => Nat.le_trans h1 (nlq_mono s ht1)⟩
    have := h3 t ht
    omega
theorem least_unique {n : Nat} {p : Nat → Bool} {r r' : Nat} (h1 : r ≤ n) (h2 : ∀ t, t < r → p t = false) (h3 : ∀ t, r ≤ t → t < n → p t = true)
    (h1' : r' ≤ n) (h2' : ∀ t, t < r' → p t = false) (h3' : ∀ t, r' ≤ t → t < n → p t = true) : r = r' := by
  rcases Nat.lt_trichotomy r r' with h | h | h
  · have a := h3 r (Nat.le_refl _) (by omega); rw [h2' r h] at a; cases a
  · exact h
  · have a := h3' r' (Nat.le_refl _) (by omega); rw [h2 r' h] at a; cases a
theorem lbeg_zero (s : ByteArray) : lbeg s 0 = 0 := by
  have h := lbeg_least s 0
  rcases Nat.eq_zero_or_pos (lbeg s 0) with h0 | h0
  · exact h0
  · have := h.2.1 0 h0; omega
/-- Of a line that there is: behind a LF. -/
theorem lbeg_nlq {s : ByteArray} {l : Nat} (hl : l < lcount s) : nlq s (lbeg s l) = l ∧ (0 < l → 0 < lbeg s l ∧ bt s (lbeg s l - 1) = 10) := by
  obtain ⟨h1, h2, h3⟩ := lbeg_least s l
  unfold lcount at hl
  have hge : l ≤ nlq s (lbeg s l) := by
    rcases Nat.lt_or_ge (lbeg s l) s.size with h | h
    · exact h3 _ (Nat.le_refl _) h
    · rw [show lbeg s l = s.size by omega]; omega
  rcases Nat.eq_zero_or_pos (lbeg s l) with h0 | h0
  · rw [h0, nlq_zero] at hge ⊢
    exact ⟨by omega, fun hp => by omega⟩
  · have h4 := h2 (lbeg s l - 1) (by omega)
    have h5 := nlq_succ (s := s) (k := lbeg s l - 1) (by omega)
    rw [show lbeg s l - 1 + 1 = lbeg s l by omega] at h5
    split at h5
    · next hb => exact ⟨by omega, fun _ => ⟨h0, hb⟩⟩
    · omega
theorem lbeg_pos {s : ByteArray} {l : Nat} (h : 0 < l) : 0 < lbeg s l ∨ s.size = 0 := by
  rcases Nat.eq_zero_or_pos (lbeg s l) with h0 | h0
  · right
    rcases Nat.eq_zero_or_pos s.size with hs | hs
    · exact hs
    · have := (lbeg_least s l).2.2 0 (by omega) hs
      rw [nlq_zero] at this; omega
  · exact .inl h0
theorem lbeg_mono (s : ByteArray) {l m : Nat} (h : l ≤ m) : lbeg s l ≤ lbeg s m := by
  rcases Nat.lt_or_ge (lbeg s m) (lbeg s l) with hl | hl
  · have h1 := (lbeg_least s l).2.1 _ hl
    have h2 := (lbeg_least s m).2.2 (lbeg s m) (Nat.le_refl _) (by have := (lbeg_least s l).1; omega)
    omega
  · exact hl
/-- Where a line ends. -/
def lend (s : ByteArray) (l : Nat) : Nat :=
  if l + 1 < lcount s then (if lbeg s l < lbeg s (l + 1) - 1 ∧ bt s (lbeg s (l + 1) - 1 - 1) = 13 then lbeg s (l + 1) - 1 - 1 else lbeg s (l + 1) - 1) else s.size
theorem lbeg_lt {s : ByteArray} {l : Nat} (h : l + 1 < lcount s) : lbeg s l < lbeg s (l + 1) := by
  have h1 := (lbeg_nlq h).1
  have h2 := (lbeg_nlq (s := s) (l := l) (by omega)).1
  have := lbeg_mono s (Nat.le_succ l)
  rcases Nat.lt_or_ge (lbeg s l) (lbeg s (l + 1)) with hl | hl
  · exact hl
  · have : lbeg s l = lbeg s (l + 1) := by simp only [Nat.succ_eq_add_one] at *; omega
    rw [this] at h2; omega
theorem lbeg_le_lend {s : ByteArray} {l : Nat} (h : l < lcount s) : lbeg s l ≤ lend s l ∧ lend s l ≤ s.size := by
  unfold lend
  split
  · next hl =>
    have h1 := lbeg_lt hl
    have h2 := (lbeg_least s (l + 1)).1
    split
    · next hc => omega
    · omega
  · exact ⟨(lbeg_least s l).1, Nat.le_refl _⟩
end Go.Bod
namespace Go.Proofs.YtmelgecjaonbbaaGreatDoor
open Go.RowKit Go.Bod

set_option maxRecDepth 100000 in
theorem llength_any {w : World} {p : Option Addr} {s : ByteArray} (h : StoreOk w p s) :
    Calls Tryz.prog 142 #[.iface 23 (.pointer p)] w fun e w' => e = .returned (.int .i64 s.size) ∧ Below w.heap.size w w' := by
  have hL := Lib.hid (sLen_any h)
  clear h
  go_enter Tryz.func142, Tryz.ntmps142
  go_wp2_with fail
  refine hL.out.mono ?_
  rintro e w1 ⟨rfl, hb1⟩
  go_wp2
  go_ret
  exact ⟨rfl, hb1⟩

set_option maxRecDepth 100000 in
theorem lslice_any {w : World} {p : Option Addr} {s : ByteArray} (h : StoreOk w p s) (f t : Nat) (hft : f ≤ t) (ht : t ≤ s.size) :
    Calls Tryz.prog 138 #[.iface 23 (.pointer p), .int .i64 f, .int .i64 t] w fun e w' => e = .returned (.string (s.extract f t)) ∧ Below w.heap.size w w' := by
  have hsz := h.size
  have hs := sSlice_any h f t (by omega) (by omega) (by omega) (by omega)
  rw [sliceR_in (by omega) (by omega) (by omega), Int.toNat_natCast, Int.toNat_natCast] at hs
  generalize s.extract f t = q at *
  have HS := Lib.hid hs
  clear hs h
  go_enter Tryz.func138, Tryz.ntmps138
  go_wp2_with fail
  refine HS.out.mono ?_
  rintro e w1 ⟨rfl, hb1⟩
  go_wp2
  go_ret
  exact ⟨rfl, hb1⟩

set_option maxRecDepth 100000 in
theorem newlines_any {w : World} {p : Option Addr} {s : ByteArray} (h : StoreOk w p s) (hT : Tabs w) (k : Nat) (hk : k ≤ s.size) :
    Calls Tryz.prog 141 #[.iface 23 (.pointer p), .int .i64 k] w fun e w' => e = .returned (.int .i64 (nlq s k)) ∧ Below w.heap.size w w' := by
  have hsz := h.size
  have hm := sMeasure_any h hT 0 k (by omega) (by omega) (by omega) (by omega)
  have hn : nls (s.extract (Int.toNat 0) (Int.toNat k)) = nlq s k := by rw [← nls_extract]; rfl
  generalize nlq s k = c at *
  have HN := Lib.hid hn
  have HM := Lib.hid hm
  clear hm h hn
  go_enter Tryz.func141, Tryz.ntmps141
  go_wp2_with fail
  refine HM.out.mono ?_
  rintro e w1 ⟨⟨vs, rfl, x1, x2, x3, x4, x5, x6, x7, y, rfl, hx⟩, hb1⟩
  obtain ⟨rfl, rfl⟩ := hx (by omega) (by omega) (by omega)
  rw [HN.out]
  clear hx
  go_wp2_with fail
  go_ret
  exact ⟨rfl, below_alloc hb1 _⟩

theorem lCount_any {w : World} {p : Option Addr} {s : ByteArray} (h : StoreOk w p s) (hT : Tabs w) :
    Calls Tryz.prog 65 #[.iface 23 (.pointer p)] w fun e w' => e = .returned (.int .i64 (lcount s)) ∧ Below w.heap.size w w' := by
  have hsz := h.size
  have hq := nlq_le s s.size
  have hL := Lib.hid (llength_any h)
  have hN := Lib.hid (fun (w1 : World) (hb : Below w.heap.size w w1) => newlines_any (h.below hb) (hT.of hb) s.size (Nat.le_refl _))
  have hc : ((nlq s s.size : Int) + 1) = (lcount s : Nat) := by unfold lcount; omega
  have HC := Lib.hid hc
  clear h hc
  generalize nlq s s.size = c at *
  generalize lcount s = d at *
  go_enter Tryz.func65, Tryz.ntmps65
  go_wp2_with fail
  refine hL.out.mono ?_
  rintro e w1 ⟨rfl, hb1⟩
  go_wp2_with fail
  refine (hN.out _ hb1).mono ?_
  rintro e w2 ⟨rfl, hb2⟩
  go_wp2
  go_ret
  exact ⟨ret_i (by rw [← HC.out]), below_from hb1 hb2⟩

/-- 'Of' at a place that there is. -/
theorem Of_any {w : World} {p : Option Addr} {s : ByteArray} (h : StoreOk w p s) (hT : Tabs w) (k : Nat) (hk : k ≤ s.size) :
    Calls Tryz.prog 136 #[.iface 23 (.pointer p), .int .i64 k] w fun e w' => e = .returned (.tuple #[.int .i64 (nlq s k), .int .i64 0]) ∧ Below w.heap.size w w' := by
  have hsz := h.size
  have hL := Lib.hid (llength_any h)
  have hN := Lib.hid (fun (w1 : World) (hb : Below w.heap.size w w1) => newlines_any (h.below hb) (hT.of hb) k hk)
  have e1 : decide (s.size < k) = false := by simp; omega
  clear h
  generalize nlq s k = c at *
  go_enter Tryz.func136, Tryz.ntmps136
  go_wp2_with fail
  refine hL.out.mono ?_
  rintro e w1 ⟨rfl, hb1⟩
  go_wp2_with fail
  refine (hN.out _ hb1).mono ?_
  rintro e w2 ⟨rfl, hb2⟩
  go_wp2
  go_ret2
  exact ⟨rfl, below_from hb1 hb2⟩

set_option maxRecDepth 100000 in
theorem begin1_any {w : World} {p : Option Addr} {s : ByteArray} (h : StoreOk w p s) (hT : Tabs w) (k l : Nat) (hk : k < s.size) (B C : Nat)
    (hB : w.cell? ⟨B, 0, none⟩ = some (.iface 23 (.pointer p))) (hC : w.cell? ⟨C, 0, none⟩ = some (.int .i64 l)) :
    Calls Tryz.prog 224 #[.int .i64 k, .pointer (some ⟨B, 0, none⟩), .pointer (some ⟨C, 0, none⟩)] w fun e w' => e = .returned (.bool (decide (l ≤ nlq s k))) ∧ Below w.heap.size w w' := by
  have hsz := h.size
  have hN := Lib.hid (fun (d : Nat) (os : Array Obj) => newlines_any (h.below (below_regrown w d os)) (hT.of (below_regrown w d os)) k (Nat.le_of_lt hk))
  clear h
  generalize nlq s k = c at *
  go_enter Tryz.func224, Tryz.ntmps224
  go_wp2_with fail
  have cB := fun (d : Nat) (os : Array Obj) => cell_regrown hB d os
  have cC := fun (d : Nat) (os : Array Obj) => cell_regrown hC d os
  refine wp_region_quiet_below (by kernel_rfl) (by kernel_rfl) ?_
  repeat (quiet_step (exact Calls.regrown_of (hN.out _ _)))
  refine wpQuiet_nil ?_
  intro _ hw'
  obtain ⟨⟨dq, osq⟩, hw''⟩ := hw'
  subst hw''
  go_wp2
  go_ret
  exact ⟨ret_b (by simp), below_regrown w dq osq⟩
end Go.Proofs.YtmelgecjaonbbaaGreatDoor
namespace Go.Bod
theorem one_byte {s : ByteArray} {k : Nat} (h : k < s.size) : (s.extract k (k + 1)).data.toList = [s.get! k] := by
  apply List.ext_getElem?
  intro n
  rw [get_extract]
  by_cases hn : n = 0
  · subst hn
    rw [if_pos (by omega), List.getElem?_eq_getElem (by rw [size_toList]; exact h)]
    simp only [Nat.add_zero, List.getElem?_cons_zero, Option.some.injEq]
    rw [get!_lt _ _ h, Array.getElem_toList]; rfl
  · rw [if_neg (by omega)]
    obtain ⟨m, rfl⟩ := Nat.exists_eq_succ_of_ne_zero hn
    simp
theorem one_eq {s : ByteArray} {k : Nat} (h : k < s.size) (c : UInt8) : ((s.extract k (k + 1)).toList == [c]) = decide (bt s k = c.toNat) := by
  rw [ByteArray.toList_eq, one_byte h, Bool.eq_iff_iff, beq_iff_eq, decide_eq_true_eq]
  unfold bt
  constructor
  · intro e; rw [List.singleton_inj.1 e]
  · intro e; rw [UInt8.toNat_inj.1 e]
end Go.Bod
namespace Go.Proofs.YtmelgecjaonbbaaGreatDoor
open Go.RowKit Go.Bod

theorem begin_of_least {s : ByteArray} {l r : Nat} (h : Least s.size (fun k => decide (l ≤ nlq s k)) r) : r = lbeg s l := by
  obtain ⟨h1, h2, h3⟩ := h
  obtain ⟨g1, g2, g3⟩ := lbeg_least s l
  exact least_unique (p := fun k => decide (l ≤ nlq s k)) h1 h2 h3 g1 (fun t ht => decide_eq_false (by have := g2 t ht; omega)) (fun t a b => decide_eq_true (g3 t a b))

set_option maxRecDepth 100000 in
theorem begin_any {w : World} {p : Option Addr} {s : ByteArray} (h : StoreOk w p s) (hT : Tabs w) (l : Nat) (hl : l ≤ 4294967296) :
    Calls Tryz.prog 197 #[.iface 23 (.pointer p), .int .i64 l] w fun e w' => e = .returned (.int .i64 (lbeg s l)) ∧ Below w.heap.size w w' := by
  have hsz := h.size
  have eg : ∀ args w, (callFunc 224 args).run Tryz.prog w = .ok (.enter 224 args) w := enters_of Tryz.func224 (by kernel_rfl) rfl
  have hL := Lib.hid (fun (w1 : World) (hb : Below w.heap.size w w1) => llength_any (h.below hb))
  have hS := fun (wr : World) (hb : Below w.heap.size w wr) (h1 : wr.cell? ⟨w.heap.size, 0, none⟩ = some (.iface 23 (.pointer p))) (h2 : wr.cell? ⟨w.heap.size + 1, 0, none⟩ = some (.int .i64 l)) =>
    (Search_any s.size 224 #[.pointer (some ⟨w.heap.size, 0, none⟩), .pointer (some ⟨w.heap.size + 1, 0, none⟩)] (fun k => decide (l ≤ nlq s k)) wr eg (by omega)
      (fun i w2 hi hb2 => begin1_any (h.below (below_from hb hb2)) (hT.of (below_from hb hb2)) i l hi _ _ (by rw [hb2.cell (p := ⟨w.heap.size, 0, none⟩) (World.block_lt_of_cell? _ _ h1)]; exact h1) (by rw [hb2.cell (p := ⟨w.heap.size + 1, 0, none⟩) (World.block_lt_of_cell? _ _ h2)]; exact h2))
      (fun a d h1 h2 h => by have := of_decide_eq_true h; have := nlq_mono s h1; exact decide_eq_true (by omega))).mono
      (R' := fun e w' => e = .returned (.int .i64 (lbeg s l)) ∧ Below wr.heap.size wr w') fun e w' ⟨⟨r, h1, h2⟩, h3⟩ => ⟨by rw [h1, begin_of_least h2], h3⟩
  have HS := Lib.hid hS
  clear hS eg h
  generalize lbeg s l = b at *
  go_enter Tryz.func197, Tryz.ntmps197
  go_wp2_with fail
  refine (hL.out _ (below_alloc (below_alloc (Below.refl _ _) _) _)).mono ?_
  rintro e w1 ⟨rfl, hb1⟩
  have hB1 : Below w.heap.size w w1 := below_from (below_alloc (below_alloc (Below.refl _ _) _) _) hb1
  have c1 : w1.cell? ⟨w.heap.size, 0, none⟩ = some (.iface 23 (.pointer p)) := cell_via hb1 (cell_old _ (cell_new _ _ _))
  have c2 : w1.cell? ⟨w.heap.size + 1, 0, none⟩ = some (.int .i64 l) := cell_via hb1 (by simp)
  clear hb1
  go_wp2_with fail
  refine (HS.out _ hB1 c1 c2).mono ?_
  rintro e w2 ⟨rfl, hb2⟩
  go_wp2
  go_ret
  exact ⟨rfl, below_from hB1 hb2⟩

theorem below_of_alloc_from {w w3 w4 : World} {o : Obj} (h : Below w.heap.size w w3) (hb : Below (w3.alloc o).heap.size (w3.alloc o) w4) : Below w.heap.size w w4 :=
  below_from h (below_of_alloc hb)

set_option maxRecDepth 100000 in
theorem Span_any {w : World} {p : Option Addr} {s : ByteArray} (h : StoreOk w p s) (hT : Tabs w) (l : Nat) (hl : l < lcount s) :
    Calls Tryz.prog 137 #[.iface 23 (.pointer p), .int .i64 l] w fun e w' => e = .returned (.tuple #[.agg #[.int .i64 (lbeg s l), .int .i64 (lend s l)], .int .i64 0]) ∧ Below w.heap.size w w' := by
  have hsz := h.size
  have hq := nlq_le s s.size
  have hlc : lcount s ≤ 4294967297 := by unfold lcount; omega
  have hC := Lib.hid (fun (w1 : World) (hb : Below w.heap.size w w1) => lCount_any (h.below hb) (hT.of hb))
  have hB := Lib.hid (fun (w1 : World) (hb : Below w.heap.size w w1) => begin_any (h.below hb) (hT.of hb) l (by omega))
  have hL := Lib.hid (fun (w1 : World) (hb : Below w.heap.size w w1) => llength_any (h.below hb))
  have e0 : decide ((l : Int) < 0) = false := by simp
  have e1 : decide ((lcount s : Int) ≤ l) = false := by simp; omega
  have e1' : decide (lcount s ≤ l) = false := by simp; omega
  by_cases hlast : l + 1 < lcount s
  · have e2 : decide ((l : Int) + 1 < (lcount s : Int)) = true := by simp; omega
    have hlt := lbeg_lt hlast
    have hle := (lbeg_least s (l + 1)).1
    have hB' := Lib.hid (fun (w1 : World) (hb : Below w.heap.size w w1) => begin_any (h.below hb) (hT.of hb) (l + 1) (by omega))
    have hX := Lib.hid (fun (w1 : World) (hb : Below w.heap.size w w1) (f t : Nat) => lslice_any (h.below hb) f t)
    have hE : lend s l = (if lbeg s l < lbeg s (l + 1) - 1 ∧ bt s (lbeg s (l + 1) - 1 - 1) = 13 then lbeg s (l + 1) - 1 - 1 else lbeg s (l + 1) - 1) := by unfold lend; rw [if_pos hlast]
    have HE := Lib.hid hE
    clear h hE
    generalize lend s l = q at *
    generalize lbeg s l = b at *
    generalize lbeg s (l + 1) = e at *
    generalize lcount s = c at *
    go_enter Tryz.func137, Tryz.ntmps137
    go_wp2_with fail
    refine (hC.out _ (below_alloc (Below.refl _ _) _)).mono ?_
    rintro x1 w1 ⟨rfl, hb1⟩
    have hB1 := below_of_alloc hb1
    go_wp2_with fail
    refine (hB.out _ hB1).mono ?_
    rintro x2 w2 ⟨rfl, hb2⟩
    have hB2 := below_from hB1 hb2
    go_wp2_with fail
    refine (hL.out _ hB2).mono ?_
    rintro x3 w3 ⟨rfl, hb3⟩
    have hB3 := below_from hB2 hb3
    have hc3 := below_from (below_from hb1 hb2) hb3
    go_wp2_with fail
    refine (hB'.out _ (below_alloc hB3 _)).mono ?_
    rintro x4 w4 ⟨rfl, hb4⟩
    have hB4 := below_of_alloc_from hB3 hb4
    have h7 := block_via hb4 (alloc_get w3 _)
    have hg := block_via hb4 (block_old _ (block_via hc3 (alloc_get w _)))
    have hn : w.heap.size < w3.heap.size := by have := hc3.size; simp at this; omega
    have hm := block_lt h7
    generalize w3.heap.size = m at *
    have k0 := frozen_of_block hg
    have k7 := frozen_of_block h7
    have d0 : w4.cell? ⟨w.heap.size, 0, none⟩ = some _ := cell_of_block hg 0
    have d1 : w4.cell? ⟨w.heap.size, 1, none⟩ = some _ := cell_of_block hg 1
    have d2 : w4.cell? ⟨m, 0, none⟩ = some _ := cell_of_block h7 0
    have d3 : w4.cell? ⟨m, 1, none⟩ = some _ := cell_of_block h7 1
    clear hb1 hb2 hb3 hB1 hB2 hb4 hc3
    by_cases c3 : b < e - 1
    · have f3 : decide ((b : Int) < (e : Int) - 1) = true := by simp; omega
      have hx := fun (w1 : World) (hb : Below w.heap.size w w1) => hX.out w1 hb (e - 1 - 1) (e - 1) (by omega) (by omega)
      rw [show ((e - 1 - 1 : Nat) : Int) = (e : Int) - 1 - 1 by omega, show ((e - 1 : Nat) : Int) = (e : Int) - 1 by omega] at hx
      have hy : ((s.extract (e - 1 - 1) (e - 1)).toList == [13]) = decide (bt s (e - 1 - 1) = 13) := by
        have := one_eq (s := s) (k := e - 1 - 1) (by omega) 13
        rwa [show e - 1 - 1 + 1 = e - 1 by omega] at this
      have hq2 := HE.out
      generalize s.extract (e - 1 - 1) (e - 1) = y at *
      have HX := Lib.hid hx
      clear hx
      go_wp2_with fail
      have hB5 := hB4.setCell (p := ⟨m, 1, none⟩) (Nat.le_of_lt hn) (.int .i64 ((e : Int) - 1))
      have hg5 := set_other hg (Nat.ne_of_lt hn) 1 (.int .i64 ((e : Int) - 1))
      have h75 : (w4.setCell ⟨m, 1, none⟩ (.int .i64 ((e : Int) - 1))).heap[m]? = some (.cells #[.int .i64 b, .int .i64 ((e : Int) - 1)] 41 (0, 0)) := set_block h7 1 (.int .i64 ((e : Int) - 1))
      clear d0 d1 d2 d3 k0 k7
      generalize w4.setCell ⟨m, 1, none⟩ (.int .i64 ((e : Int) - 1)) = w5 at *
      refine (HX.out _ hB5).mono ?_
      rintro x5 w6 ⟨rfl, hb6⟩
      have hB6 := below_from hB5 hb6
      have hg6 := block_via hb6 hg5
      have h76 := block_via hb6 h75
      have hm6 := block_lt h76
      have k0 := frozen_of_block hg6
      have k7 := frozen_of_block h76
      have d0 : w6.cell? ⟨w.heap.size, 0, none⟩ = some _ := cell_of_block hg6 0
      have d1 : w6.cell? ⟨w.heap.size, 1, none⟩ = some _ := cell_of_block hg6 1
      have d2 : w6.cell? ⟨m, 0, none⟩ = some _ := cell_of_block h76 0
      have d3 : w6.cell? ⟨m, 1, none⟩ = some _ := cell_of_block h76 1
      clear hb6
      by_cases hc : bt s (e - 1 - 1) = 13
      · rw [decide_eq_true hc] at hy
        rw [if_pos ⟨c3, hc⟩] at hq2
        go_wp2_with fail
        refine bodyPost_ret (v := .tuple #[.agg #[.int .i64 b, .int .i64 ((e : Int) - 1 - 1)], .int .i64 0]) (by simp [results, Tryz.results137, go_sem, d0, d1, hn, hm6]) rfl ⟨?_, ?_⟩
        · rw [show ((e : Int) - 1 - 1) = (q : Int) by omega]
        · exact ((hB6.setCell (p := ⟨m, 1, none⟩) (Nat.le_of_lt hn) _).setCell (p := ⟨w.heap.size, 0, none⟩) (Nat.le_refl _) _).setCell (p := ⟨w.heap.size, 1, none⟩) (Nat.le_refl _) _
      · rw [decide_eq_false hc] at hy
        rw [if_neg (fun h => hc h.2)] at hq2
        go_wp2_with fail
        refine bodyPost_ret (v := .tuple #[.agg #[.int .i64 b, .int .i64 ((e : Int) - 1)], .int .i64 0]) (by simp [results, Tryz.results137, go_sem, d0, d1, hn, hm6]) rfl ⟨?_, ?_⟩
        · rw [show ((e : Int) - 1) = (q : Int) by omega]
        · exact (hB6.setCell (p := ⟨w.heap.size, 0, none⟩) (Nat.le_refl _) _).setCell (p := ⟨w.heap.size, 1, none⟩) (Nat.le_refl _) _
    · have f3 : decide ((b : Int) < (e : Int) - 1) = false := by simp; omega
      have hq2 := HE.out
      rw [if_neg (fun h => c3 h.1)] at hq2
      go_wp2_with fail
      refine bodyPost_ret (v := .tuple #[.agg #[.int .i64 b, .int .i64 ((e : Int) - 1)], .int .i64 0]) (by simp [results, Tryz.results137, go_sem, d0, d1, hn, hm]) rfl ⟨?_, ?_⟩
      · rw [show ((e : Int) - 1) = (q : Int) by omega]
      · exact ((hB4.setCell (p := ⟨m, 1, none⟩) (Nat.le_of_lt hn) _).setCell (p := ⟨w.heap.size, 0, none⟩) (Nat.le_refl _) _).setCell (p := ⟨w.heap.size, 1, none⟩) (Nat.le_refl _) _
  · have he : lend s l = s.size := by unfold lend; rw [if_neg hlast]
    rw [he]
    have e2 : decide ((l : Int) + 1 < (lcount s : Int)) = false := by simp; omega
    clear he h
    generalize lbeg s l = b at *
    generalize lcount s = c at *
    go_enter Tryz.func137, Tryz.ntmps137
    go_wp2_with fail
    refine (hC.out _ (below_alloc (Below.refl _ _) _)).mono ?_
    rintro e w1 ⟨rfl, hb1⟩
    have hB1 := below_of_alloc hb1
    go_wp2_with fail
    refine (hB.out _ hB1).mono ?_
    rintro e w2 ⟨rfl, hb2⟩
    have hB2 := below_from hB1 hb2
    go_wp2_with fail
    refine (hL.out _ hB2).mono ?_
    rintro e w3 ⟨rfl, hb3⟩
    have hB3 := below_from hB2 hb3
    have hg := block_via (below_from (below_from hb1 hb2) hb3) (alloc_get w _)
    have hn := block_lt hg
    have k0 := frozen_of_block hg
    have d0 : w3.cell? ⟨w.heap.size, 0, none⟩ = some _ := cell_of_block hg 0
    have d1 : w3.cell? ⟨w.heap.size, 1, none⟩ = some _ := cell_of_block hg 1
    clear hb1 hb2 hb3 hB1 hB2
    go_wp2_with fail
    refine bodyPost_ret (v := .tuple #[.agg #[.int .i64 b, .int .i64 s.size], .int .i64 0]) (by simp [results, Tryz.results137, go_sem, d0, d1, hn]) rfl ⟨rfl, ?_⟩
    exact below_alloc ((hB3.setCell (Nat.le_refl _) _).setCell (Nat.le_refl _) _) _
end Go.Proofs.YtmelgecjaonbbaaGreatDoor
namespace Go.Bod
/-- The cells of the clusters that end at most at k. -/
def colOf (y : ByteArray) (k : Int) : Int := cellsOf y ((clist y).takeWhile fun x => decide ((x.2 : Int) ≤ k))
theorem takeWhile_stop {α : Type} {p : α → Bool} : ∀ {xs : List α} {x : α} {l : List α}, (xs ++ [x]) <+: l → (∀ y ∈ xs, p y = true) → p x = false → l.takeWhile p = xs
  | [], x, l, h, _, hx => by
    obtain ⟨r, rfl⟩ := h
    simp [List.takeWhile_cons, hx]
  | a :: xs, x, l, h, ha, hx => by
    obtain ⟨r, rfl⟩ := h
    have := takeWhile_stop (p := p) (xs := xs) (x := x) (l := xs ++ [x] ++ r) ⟨r, rfl⟩ (fun y hy => ha y (List.mem_cons_of_mem _ hy)) hx
    simp only [List.cons_append, List.takeWhile_cons, ha a (List.mem_cons_self ..), if_true]
    rw [this]
theorem takeWhile_all {α : Type} {p : α → Bool} : ∀ {l : List α}, (∀ y ∈ l, p y = true) → l.takeWhile p = l
  | [], _ => rfl
  | a :: l, h => by rw [List.takeWhile_cons, if_pos (h a (List.mem_cons_self ..)), takeWhile_all fun y hy => h y (List.mem_cons_of_mem _ hy)]
theorem takeWhile_more {α : Type} {p : α → Bool} (r : List α) : ∀ {xs : List α}, (∃ x ∈ xs, p x = false) → (xs ++ r).takeWhile p = xs.takeWhile p
  | [], h => by obtain ⟨x, hx, _⟩ := h; cases hx
  | a :: xs, h => by
    rw [List.cons_append, List.takeWhile_cons, List.takeWhile_cons]
    split
    · next ha =>
      obtain ⟨x, hx, hp⟩ := h
      rcases List.mem_cons.1 hx with rfl | hx
      · rw [ha] at hp; cases hp
      · rw [takeWhile_more r ⟨x, hx, hp⟩]
    · rfl
theorem takeWhile_prefix {α : Type} {p : α → Bool} {xs l : List α} (h : xs <+: l) (hx : ∃ x ∈ xs, p x = false) : l.takeWhile p = xs.takeWhile p := by
  obtain ⟨r, rfl⟩ := h
  exact takeWhile_more r hx
end Go.Bod
namespace Go.Proofs.YtmelgecjaonbbaaGreatDoor
open Go.RowKit Go.Bod
attribute [local go_sem] Oper.semAt_some

/-- The line of a place. -/
def lineAt (s : ByteArray) (k : Nat) : Nat := nlq s k
theorem nlq_lt {s : ByteArray} {k : Nat} (h : k ≤ s.size) : nlq s k < lcount s := by unfold lcount; have := nlq_mono s h; omega

/-- The clusters that end at most at k. -/
def upto (k : Int) (xs : List (Nat × Nat)) : List (Nat × Nat) := xs.takeWhile fun x => decide ((x.2 : Int) ≤ k)
theorem colOf_upto (y : ByteArray) (k : Int) : colOf y k = cellsOf y (upto k (clist y)) := rfl
theorem upto_all {k : Int} {xs : List (Nat × Nat)} (h : ∀ x ∈ xs, (x.2 : Int) ≤ k) : upto k xs = xs := takeWhile_all fun x hx => decide_eq_true (h x hx)
theorem upto_stop {k : Int} {xs : List (Nat × Nat)} {x : Nat × Nat} (h : ∀ x ∈ xs, (x.2 : Int) ≤ k) (hx : ¬ (x.2 : Int) ≤ k) : upto k (xs ++ [x]) = xs :=
  takeWhile_stop (List.prefix_refl _) (fun x hx => decide_eq_true (h x hx)) (decide_eq_false hx)

/-- Between two rounds of Column: the place, the line, the count so far. -/
def ColI (y : ByteArray) (w : World) (g2 g3 k b e : Nat) (pre : List (Clu y)) (W : World) : Prop :=
  W.heap[w.heap.size]? = some (.cells #[.int .i64 k] 3 (0, 0)) ∧ W.heap[g2]? = some (.cells #[.int .i64 b, .int .i64 e] 41 (0, 0)) ∧ W.heap[g2 + 1]? = some (.cells #[.int .i64 (cellsOf y (cl1 pre))] 3 (0, 0)) ∧
    Below w.heap.size w W ∧ g3 < W.heap.size ∧ ∀ x ∈ cl1 pre, (x.2 : Int) ≤ (k : Int) - b
/-- Where Column leaves its loop. -/
def ColX (y : ByteArray) (w : World) (g2 k b : Nat) (c : Code) (pre : List (Clu y)) (W : World) : Prop :=
  W.heap[g2 + 1]? = some (.cells #[.int .i64 (cellsOf y (upto ((k : Int) - b) (cl1 pre)))] 3 (0, 0)) ∧ Below w.heap.size w W ∧ (c = .exit 0 ∧ ∃ x ∈ cl1 pre, ¬ (x.2 : Int) ≤ (k : Int) - b)
/-- The frame of Column in a round, and the loop's variable. -/
def ColAx (y : ByteArray) (p : Option Addr) (g0 g2 g3 k l b e : Nat) (x : Clu y) (a' : Act) (W : World) : Prop :=
  ∃ bb, g3 < bb ∧ W.heap[bb]? = some (.cells #[.int .i64 x.1.1, .int .i64 x.1.2, .int .i64 (mcls y x.1.1), .int .i64 (mcel y x.1.1)] 34 (0, 0)) ∧
    a' = ⟨#[.iface 23 (.pointer p), .int .i64 (k : Int), undef, .pointer (some ⟨g0, 0, none⟩), .int .i64 0, .int .i64 0, .int .i64 (l : Int), .int .i64 0, .pointer (some ⟨g2, 0, none⟩), .int .i64 0, .pointer (some ⟨g2 + 1, 0, none⟩), .pointer (some ⟨bb, 0, none⟩), .tuple #[.int .i64 (l : Int), .int .i64 0], .iface 23 (.pointer p), .int .i64 (k : Int), .tuple #[.int .i64 (l : Int), .int .i64 0], .int .i64 (l : Int), .int .i64 0, .int .i64 0, .bool false, undef, .tuple #[.agg #[.int .i64 (b : Int), .int .i64 (e : Int)], .int .i64 0], .iface 23 (.pointer p), .int .i64 (l : Int), .tuple #[.agg #[.int .i64 (b : Int), .int .i64 (e : Int)], .int .i64 0], .agg #[.int .i64 (b : Int), .int .i64 (e : Int)], .int .i64 0, .iface 23 (.pointer p), .pointer (some ⟨g2, 0, none⟩), .int .i64 (b : Int), .pointer (some ⟨g2, 1, none⟩), .int .i64 (e : Int), .string y, .func (.func 139) #[] #[.pointer (some ⟨g3, 0, none⟩)], .agg #[.int .i64 x.1.1, .int .i64 x.1.2, .int .i64 (mcls y x.1.1), .int .i64 (mcel y x.1.1)], undef, undef, undef, undef, undef, undef, undef, undef, undef, undef, undef, undef], []⟩

set_option maxRecDepth 100000 in
theorem Column_in (n : Nat) {w : World} {p : Option Addr} {s : ByteArray} (h : StoreOk w p s) (hT : Tabs w) (k : Nat) (hk : k ≤ s.size) :
    CallsIn Fence.wide (n + 3) Tryz.prog 62 #[.iface 23 (.pointer p), .int .i64 k] w fun e w' => e = .returned (.tuple #[.int .i64 (colOf (s.extract (lbeg s (nlq s k)) (lend s (nlq s k))) ((k : Int) - lbeg s (nlq s k))), .int .i64 0]) ∧ Below w.heap.size w w' := by
  have hsz := h.size
  have hl := nlq_lt hk
  have hle := lbeg_le_lend hl
  have hO := Lib.hid (fun (w1 : World) (hb : Below w.heap.size w w1) => Of_any (h.below hb) (hT.of hb) k hk)
  have hS := Lib.hid (fun (w1 : World) (hb : Below w.heap.size w w1) => Span_any (h.below hb) (hT.of hb) (nlq s k) hl)
  have hX := Lib.hid (fun (w1 : World) (hb : Below w.heap.size w w1) => lslice_any (h.below hb) _ _ hle.1 hle.2)
  have hys : (s.extract (lbeg s (nlq s k)) (lend s (nlq s k))).size ≤ 4294967296 := by rw [size_ext]; omega
  clear h
  generalize s.extract (lbeg s (nlq s k)) (lend s (nlq s k)) = y at *
  generalize lbeg s (nlq s k) = b at *
  generalize lend s (nlq s k) = e at *
  generalize nlq s k = l at *
  have hlen := clist_length y
  refine callsIn_of_wp_marks Tryz.func62 rfl trivial ?_ rfl
  simp only [Tryz.ntmps62, List.size_toArray, List.length_cons, List.length_nil, Nat.reduceAdd, Nat.reduceSub, Array.replicate_succ, Array.replicate_zero, List.push_toArray, List.append_toArray, List.nil_append, List.cons_append]
  gi_wp2_with fail
  refine ⟨trivial, ?_⟩
  refine (callsIn_wide.2 (hO.out _ (below_alloc (Below.refl _ _) _))).mono ?_
  rintro x1 w1 ⟨rfl, hb1⟩
  have hB1 := below_of_alloc hb1
  gi_wp2_with fail
  refine ⟨trivial, ?_⟩
  refine (callsIn_wide.2 (hS.out _ hB1)).mono ?_
  rintro x2 w2 ⟨rfl, hb2⟩
  have hB2 := below_from hB1 hb2
  gi_wp2_with fail
  refine ⟨trivial, ?_⟩
  refine (callsIn_wide.2 (hX.out _ (below_alloc (below_alloc hB2 _) _))).mono ?_
  rintro x3 w3 ⟨rfl, hb3⟩
  gi_wp2_with fail
  refine ⟨trivial, ?_⟩
  refine (callsIn_wide.2 (Walk_any y _)).mono ?_
  rintro x4 w4 ⟨rfl, rfl⟩
  gi_wp2_with fail
  have hB2a : Below w.heap.size w ((w2.alloc (.cells #[.int .i64 b, .int .i64 e] 41)).alloc (.cells #[.int .i64 0] 3)) := below_alloc (below_alloc hB2 _) _
  have hB3 := below_from hB2a hb3
  have q0 : w3.heap[w.heap.size]? = some (.cells #[.int .i64 k] 3 (0, 0)) := block_via hb3 (block_old _ (block_old _ (block_via hb2 (block_via hb1 (alloc_get w _)))))
  have q2 : w3.heap[w2.heap.size]? = some (.cells #[.int .i64 b, .int .i64 e] 41 (0, 0)) := block_via hb3 (block_old _ (alloc_get w2 _))
  have q3 : w3.heap[w2.heap.size + 1]? = some (.cells #[.int .i64 0] 3 (0, 0)) := block_via hb3 (by have := alloc_get (w2.alloc (.cells #[.int .i64 b, .int .i64 e] 41)) (.cells #[.int .i64 0] 3); simpa using this)
  have z1 : w.heap.size < w2.heap.size := by have h1 := hb1.size; have h2 := hb2.size; simp at h1; omega
  have z2 := block_lt q3
  have ht1 := hT.lt.2
  generalize w2.heap.size = g2 at *
  have hit := Walk1_stops (n + 2) y w3.heap.size w.heap.size (w3.alloc (.cells #[.string y] 9)) (by omega) ((hT.of hB3).alloc _) ht1 (by simp; omega) (by simp)
  refine wpIn_rangeFunc_ownH (α := Clu y) (n := n + 3) rfl (by omega) (encs := cvals y) (Kp := KeepB w.heap.size w3.heap.size) (gf := 139) (lb := #[.pointer (some ⟨w3.heap.size, 0, none⟩)]) rfl trivial (enters_of Tryz.func139 (by kernel_rfl) rfl)
    hit KeepB.trans (KeepB.put (by simp; omega) (by simp)) (Below.refl _ _) (fun _ => rfl)
    (ColI y w g2 w3.heap.size k b e) (ColX y w g2 k b) ?hI ?hIx ?h0
    (ColAx y p w.heap.size g2 w3.heap.size k l b e) ?hAx ?hassign ?hbody ?hdone ?hstop
  case hI =>
    refine OwnFrom.and (own_block _ _ (fun _ : List (Clu y) => #[.int .i64 k]) 3 (0, 0)) (OwnFrom.and (own_block _ _ (fun _ : List (Clu y) => #[.int .i64 b, .int .i64 e]) 41 (0, 0)) (OwnFrom.and (own_block _ _ (fun pre : List (Clu y) => #[.int .i64 (cellsOf y (cl1 pre))]) 3 (0, 0)) (OwnFrom.and (ownFrom_below (Nat.le_refl _) (by simp; omega)) (OwnFrom.and ?_ (own_pure _ _)))))
    intro s X Y row hs hg hr
    have := hg.size; omega
  case hIx =>
    intro c
    exact OwnFrom.and (own_block _ _ (fun pre : List (Clu y) => #[.int .i64 (cellsOf y (upto ((k : Int) - b) (cl1 pre)))]) 3 (0, 0)) (OwnFrom.and (ownFrom_below (Nat.le_refl _) (by simp; omega)) (own_pure _ _))
  case h0 => exact ⟨block_old _ q0, block_old _ q2, block_old _ q3, below_alloc hB3 _, by simp, fun x hx => by cases hx⟩
  case hAx =>
    intro x a' u X Y row ⟨b, h1, h2, h3⟩ hg hr
    exact ⟨b, h1, own_block _ b (fun _ : Unit => _) _ _ () X Y row h2 hg hr, h3⟩
  case hassign =>
    intro l pre x W K ⟨i1, i2, i3, hB, hz, hx⟩ hK
    have hBs := hB.size
    have HX := Lib.hid hx
    clear hx
    simp [cvals, cval]
    gi_wp2
    exact hK _ _ (keeps_alloc (KeepsFrom.refl _ _) _) ((KeepB.refl _ _ _).alloc (by omega) (by omega) _) ⟨block_old _ i1, block_old _ i2, block_old _ i3, hB.alloc (by omega) _, by simp; omega, HX.out⟩ ⟨W.heap.size, hz, alloc_get _ _, rfl⟩
  case hbody =>
    rintro l pre x a' W hl ⟨r, hr⟩ ⟨i1, i2, i3, hB, hz, hx⟩ ⟨bb, hb1, hb2, rfl⟩ hlt
    have HX := Lib.hid hx
    have f3 := frozen_of_block i3 0
    have c0 : W.cell? ⟨w.heap.size, 0, none⟩ = some (.int .i64 k) := cell_of_block i1 0
    have c1 : W.cell? ⟨g2, 0, none⟩ = some (.int .i64 b) := cell_of_block i2 0
    have c2 : W.cell? ⟨g2 + 1, 0, none⟩ = some (.int .i64 (cellsOf y (cl1 pre))) := cell_of_block i3 0
    have c3 : W.cell? ⟨bb, 1, none⟩ = some (.int .i64 x.1.2) := cell_of_block hb2 1
    have c4 : W.cell? ⟨bb, 3, none⟩ = some (.int .i64 (mcel y x.1.1)) := cell_of_block hb2 3
    have hm := mcel_le y x.1.1
    have hcl := cellsOf_le y (cl1 pre)
    rw [cl1_length] at hcl
    have hsn := cellsOf_snoc y (cl1 pre) x.1
    rw [← cl1_snoc] at hsn
    have hx2 : x.1.2 ≤ y.size := (cfrom_mem _ 0 rfl (cb_zero y) x.1 x.2).2.2.1
    by_cases hc : (b : Int) + x.1.2 ≤ k
    · have e1 : decide ((k : Int) < (b : Int) + x.1.2) = false := by simp; omega
      generalize cellsOf y (cl1 pre) = n1 at *
      generalize mcel y x.1.1 = n0 at *
      have HS := Lib.hid hsn
      clear hsn hx
      gi_wp2
      refine ⟨keeps_set (KeepsFrom.refl _ _) _ _, (KeepB.refl _ _ _).set (p := ⟨g2 + 1, 0, none⟩) (by show w.heap.size ≤ g2 + 1; omega) (by show w3.heap.size ≠ g2 + 1; omega) _, set_other i1 (by omega) 0 _, set_other i2 (by omega) 0 _, ?_, hB.setCell (by show w.heap.size ≤ g2 + 1; omega) _, by simpa using hz, ?_⟩
      · rw [HS.out]
        have := set_block i3 0 (.int .i64 (n1 + n0))
        simpa using this
      · intro z hz
        rw [cl1_snoc] at hz
        rcases List.mem_append.1 hz with hz | hz
        · exact HX.out z hz
        · rw [List.mem_singleton.1 hz]; omega
    · have e1 : decide ((k : Int) < (b : Int) + x.1.2) = true := by simp; omega
      have hu : upto ((k : Int) - b) (cl1 (pre ++ [x])) = cl1 pre := by rw [cl1_snoc]; exact upto_stop hx (by omega)
      have HU := Lib.hid hu
      clear hu hx hsn
      gi_wp2
      refine ⟨KeepsFrom.refl _ _, ?_, hB, rfl, x.1, by rw [cl1_snoc]; simp, by omega⟩
      rw [HU.out]; exact i3
  case hdone =>
    rintro D ys W hD hy ⟨i1, i2, i3, hB, hz, hx⟩ hK
    have c2 : W.cell? ⟨g2 + 1, 0, none⟩ = some (.int .i64 (cellsOf y (cl1 ys))) := cell_of_block i3 0
    rw [← upto_all hx, hy] at c2
    clear hy hx
    gi_wp2
    refine ⟨by simp, .inl ⟨_, _, rfl, run_takeDeferred hK, ?_⟩⟩
    exact ⟨.tuple #[.int .i64 (cellsOf y (upto ((k : Int) - b) (clist y))), .int .i64 0], by simp [results, Tryz.results62, go_sem], rfl, hB.trans (belowK_b (w := w) (Nat.le_refl _) W D _ _ (by simp at hD; omega) hK rfl rfl)⟩
  case hstop =>
    intro D c pre W hD hsp ⟨i3, hB, hc, hx⟩ hK
    subst hc
    have c2 : W.cell? ⟨g2 + 1, 0, none⟩ = some (.int .i64 (cellsOf y (upto ((k : Int) - b) (cl1 pre)))) := cell_of_block i3 0
    have hu : upto ((k : Int) - b) (clist y) = upto ((k : Int) - b) (cl1 pre) := takeWhile_prefix hsp (by obtain ⟨x, hx, hn⟩ := hx; exact ⟨x, hx, decide_eq_false hn⟩)
    rw [← hu] at c2
    clear hu hsp hx
    gi_wp2
    refine ⟨by simp, .inl ⟨_, _, rfl, run_takeDeferred hK, ?_⟩⟩
    exact ⟨.tuple #[.int .i64 (cellsOf y (upto ((k : Int) - b) (clist y))), .int .i64 0], by simp [results, Tryz.results62, go_sem], rfl, hB.trans (belowK_b (w := w) (Nat.le_refl _) W D _ _ (by simp at hD; omega) hK rfl rfl)⟩
theorem Column_any {w : World} {p : Option Addr} {s : ByteArray} (h : StoreOk w p s) (hT : Tabs w) (k : Nat) (hk : k ≤ s.size) :
    Calls Tryz.prog 62 #[.iface 23 (.pointer p), .int .i64 k] w fun e w' => e = .returned (.tuple #[.int .i64 (colOf (s.extract (lbeg s (nlq s k)) (lend s (nlq s k))) ((k : Int) - lbeg s (nlq s k))), .int .i64 0]) ∧ Below w.heap.size w w' := callsIn_wide.1 (Column_in 0 h hT k hk)
end Go.Proofs.YtmelgecjaonbbaaGreatDoor
