/- The plain arithmetic of units in a text: decoding at a place, which byte belongs to which unit; The plain law of units: that a piece of a text has the units of the text, where it ends at a byte that goes on no unit; The plain law of units, further: the unit in which a place lies; Small words for the walks: what a call that only reads leaves of the world; The walks of layer 1 (unit); The plain law of clusters: classes, boundaries; The walks of layer 2 (width), and of sort.Search at a closure that only reads; The walks of layer 2, further: which table a character stands in; The walks of layer 2, further: a character's class and its cells; The walks of layer 3 (cluster): boundaries; The walks of layer 3 (cluster), further: Boundary, Next, Prev, Snap; The walks of layer 3 (cluster), further: Next, Prev, Snap. -/
import Derived.Lib.DecodeNEq
import Derived.Test.YtmelgecjaonbbaaGreatDoorProg
import Derived.Shelf.Unicode.DecodeSlow
import Derived.WalkKit
import Derived.BigQuiet
import Derived.Deep.QuietTactic
import Derived.Lib.Hide
import Derived.Test.YtmelgecjaonbbaaGreatDoorShelf
import Derived.Deep.LoopGhost
set_option linter.unusedSimpArgs false
set_option linter.unusedVariables false
namespace Go.Bod
open Go.Lib

theorem dn_le4 (n b0 b1 b2 b3 : Nat) : (decodeN n b0 b1 b2 b3).2 ≤ 4 := by
  unfold decodeN
  repeat' split
  all_goals simp
theorem dn_le_n (n b0 b1 b2 b3 : Nat) (hn : 1 ≤ n) : (decodeN n b0 b1 b2 b3).2 ≤ n := by
  unfold decodeN
  repeat' split
  all_goals (simp only; omega)
theorem dn_bytes (n b0 b1 b2 b3 : Nat) (h : 2 ≤ (decodeN n b0 b1 b2 b3).2) :
    192 ≤ b0 ∧ (1 < (decodeN n b0 b1 b2 b3).2 → 128 ≤ b1 ∧ b1 < 192) ∧ (2 < (decodeN n b0 b1 b2 b3).2 → 128 ≤ b2 ∧ b2 < 192) ∧ (3 < (decodeN n b0 b1 b2 b3).2 → 128 ≤ b3 ∧ b3 < 192) := by
  revert h
  unfold decodeN
  repeat' split
  all_goals (simp only; intro h; omega)

/-- The byte at a place; 0 beyond the end. -/
def bt (s : ByteArray) (i : Nat) : Nat := (s.get! i).toNat
/-- The width of the unit that begins at i. -/
def uln (s : ByteArray) (i : Nat) : Nat := (Utf8.decode s i).2
/-- The unit's character, -1 of a bad byte. -/
def uch (s : ByteArray) (i : Nat) : Int := if (Utf8.decode s i).1 = 65533 ∧ (Utf8.decode s i).2 = 1 then -1 else ((Utf8.decode s i).1 : Int)

theorem get!_lt (s : ByteArray) (i : Nat) (h : i < s.size) : s.get! i = s[i] := by
  cases s with
  | mk d => exact getElem!_pos d i h
theorem get!_ge (s : ByteArray) (i : Nat) (h : s.size ≤ i) : s.get! i = 0 := by
  cases s with
  | mk d => exact getElem!_neg d i (Nat.not_lt.2 h)
theorem bt_lt (s : ByteArray) (i : Nat) : bt s i < 256 := (s.get! i).toNat_lt
theorem bt_ge (s : ByteArray) (i : Nat) (h : s.size ≤ i) : bt s i = 0 := by unfold bt; rw [get!_ge s i h]; rfl

theorem dec_eq (s : ByteArray) (i : Nat) : Utf8.decode s i = decodeN (s.size - i) (bt s i) (bt s (i + 1)) (bt s (i + 2)) (bt s (i + 3)) := decode_at s i

theorem size_extract (s : ByteArray) (a b : Nat) : (s.extract a b).size = min b s.size - a := by simp
theorem bt_extract (s : ByteArray) (a b k : Nat) (h : a + k < b) : bt (s.extract a b) k = bt s (a + k) := by
  unfold bt
  by_cases h1 : a + k < s.size
  · rw [get!_lt _ _ (by rw [size_extract]; omega), get!_lt _ _ h1, ByteArray.getElem_extract]
  · rw [get!_ge _ _ (by rw [size_extract]; omega), get!_ge _ _ (by omega)]
theorem bt_extract_ge (s : ByteArray) (a b k : Nat) (h : b ≤ a + k) : bt (s.extract a b) k = 0 :=
  bt_ge _ _ (by rw [size_extract]; omega)

theorem uln_pos (s : ByteArray) (i : Nat) : 1 ≤ uln s i := by
  unfold uln; rw [dec_eq]; unfold decodeN
  repeat' split
  all_goals simp
theorem uln_le4 (s : ByteArray) (i : Nat) : uln s i ≤ 4 := by unfold uln; rw [dec_eq]; exact dn_le4 _ _ _ _ _
theorem uln_le (s : ByteArray) (i : Nat) (h : i < s.size) : i + uln s i ≤ s.size := by
  have : uln s i ≤ s.size - i := by unfold uln; rw [dec_eq]; exact dn_le_n _ _ _ _ _ (by omega)
  omega

/-- A unit of two bytes or more begins with a byte of 192 or more, and the rest are from 128 to 191. -/
theorem uln_bytes (s : ByteArray) (i : Nat) (h : 2 ≤ uln s i) : 192 ≤ bt s i ∧ ∀ k, 1 ≤ k → k < uln s i → 128 ≤ bt s (i + k) ∧ bt s (i + k) < 192 := by
  have h4 := uln_le4 s i
  unfold uln at *; rw [dec_eq] at *
  obtain ⟨h0, h1, h2, h3⟩ := dn_bytes _ _ _ _ _ h
  refine ⟨h0, fun k hk1 hk => ?_⟩
  have hk3 : k = 1 ∨ k = 2 ∨ k = 3 := by omega
  rcases hk3 with rfl | rfl | rfl
  · exact h1 hk
  · exact h2 hk
  · exact h3 hk
end Go.Bod
namespace Go.Bod
open Go.Lib

theorem dn_len (n n' b0 b1 b2 b3 : Nat) (h : n = n' ∨ 4 ≤ n ∧ 4 ≤ n') : decodeN n b0 b1 b2 b3 = decodeN n' b0 b1 b2 b3 := by
  rcases h with rfl | ⟨h, h'⟩
  · rfl
  · unfold decodeN
    have e1 : (1 < n) = (1 < n') := propext ⟨fun _ => by omega, fun _ => by omega⟩
    have e2 : (2 < n) = (2 < n') := propext ⟨fun _ => by omega, fun _ => by omega⟩
    have e3 : (3 < n) = (3 < n') := propext ⟨fun _ => by omega, fun _ => by omega⟩
    simp only [e1, e2, e3]
set_option maxRecDepth 10000 in
theorem dn_one (n b0 b1 b2 b3 c1 c2 c3 : Nat) (h : n ≤ 1 ∨ ¬ b1 / 64 = 2) : decodeN n b0 b1 b2 b3 = decodeN 1 b0 c1 c2 c3 := by
  have e1 : (1 < n ∧ b1 / 64 = 2) = False := eq_false (by omega)
  have e2 : (1 < 1 ∧ c1 / 64 = 2) = False := eq_false (by omega)
  unfold decodeN
  simp only [e1, e2, and_false, false_and, if_false]
set_option maxRecDepth 10000 in
theorem dn_two (n b0 b1 b2 b3 c2 c3 : Nat) (h1 : 2 ≤ n) (h : n ≤ 2 ∨ ¬ b2 / 64 = 2) : decodeN n b0 b1 b2 b3 = decodeN 2 b0 b1 c2 c3 := by
  have e0 : (1 < n) = True := eq_true (by omega)
  have e0' : (1 < 2) = True := eq_true (by omega)
  have e1 : (2 < n ∧ b2 / 64 = 2) = False := eq_false (by omega)
  have e2 : (2 < 2 ∧ c2 / 64 = 2) = False := eq_false (by omega)
  unfold decodeN
  simp only [e0, e1, e0', e2, and_false, false_and, if_false]
set_option maxRecDepth 10000 in
theorem dn_three (n b0 b1 b2 b3 c3 : Nat) (h1 : 3 ≤ n) (h : n ≤ 3 ∨ ¬ b3 / 64 = 2) : decodeN n b0 b1 b2 b3 = decodeN 3 b0 b1 b2 c3 := by
  have e0 : (1 < n) = True := eq_true (by omega)
  have e0' : (1 < 3) = True := eq_true (by omega)
  have e3 : (2 < n) = True := eq_true (by omega)
  have e3' : (2 < 3) = True := eq_true (by omega)
  have e1 : (3 < n ∧ b3 / 64 = 2) = False := eq_false (by omega)
  have e2 : (3 < 3 ∧ c3 / 64 = 2) = False := eq_false (by omega)
  unfold decodeN
  simp only [e0, e3, e1, e0', e3', e2, and_false, false_and, if_false]

/-- No byte from 128 to 191 stands at b: the text ends there, or something begins. -/
def nc (s : ByteArray) (b : Nat) : Prop := s.size ≤ b ∨ bt s b < 128 ∨ 192 ≤ bt s b

theorem dec_extract (s : ByteArray) (a b k : Nat) (h : a + k < b) (hb : nc s b ∨ a + k + 4 ≤ b) : Utf8.decode (s.extract a b) k = Utf8.decode s (a + k) := by
  rw [dec_eq, dec_eq, size_extract, bt_extract s a b k h]
  have q (j : Nat) : a + k + j < b → bt (s.extract a b) (k + j) = bt s (a + k + j) := fun hj => by rw [bt_extract s a b (k + j) (by omega), Nat.add_assoc]
  by_cases h4 : a + k + 4 ≤ b
  · rw [q 1 (by omega), q 2 (by omega), q 3 (by omega)]
    exact dn_len _ _ _ _ _ _ (by omega)
  · have hnc : nc s b := by rcases hb with hb | hb; exact hb; exact absurd hb h4
    by_cases hs : s.size ≤ a + k
    · rw [dn_one _ _ _ _ _ 0 0 0 (.inl (by omega)), dn_one (s.size - (a + k)) _ _ _ _ 0 0 0 (.inl (by omega))]
    have hd : b = a + k + 1 ∨ b = a + k + 2 ∨ b = a + k + 3 := by omega
    rcases hd with rfl | rfl | rfl
    · rw [dn_one _ _ _ _ _ 0 0 0 (.inl (by omega)), dn_one (s.size - (a + k)) _ _ _ _ 0 0 0 (by rcases hnc with e | e <;> omega)]
    · rw [q 1 (by omega)]
      by_cases h2 : a + k + 2 ≤ s.size
      · rw [dn_two _ _ _ _ _ 0 0 (by omega) (.inl (by omega)), dn_two (s.size - (a + k)) _ _ _ _ 0 0 (by omega) (by rcases hnc with e | e <;> omega)]
      · rw [dn_one _ _ _ _ _ 0 0 0 (.inl (by omega)), dn_one (s.size - (a + k)) _ _ _ _ 0 0 0 (.inl (by omega))]
    · rw [q 1 (by omega), q 2 (by omega)]
      by_cases h2 : a + k + 3 ≤ s.size
      · rw [dn_three _ _ _ _ _ 0 (by omega) (.inl (by omega)), dn_three (s.size - (a + k)) _ _ _ _ 0 (by omega) (by rcases hnc with e | e <;> omega)]
      · rw [show min (a + k + 3) s.size - a - k = s.size - (a + k) by omega]
        by_cases h1 : a + k + 2 ≤ s.size
        · rw [dn_two _ _ _ _ _ 0 0 (by omega) (.inl (by omega)), dn_two (s.size - (a + k)) _ _ _ _ 0 0 (by omega) (.inl (by omega))]
        · rw [dn_one _ _ _ _ _ 0 0 0 (.inl (by omega)), dn_one (s.size - (a + k)) _ _ _ _ 0 0 0 (.inl (by omega))]
theorem dec_extract_end (s : ByteArray) (a k : Nat) (h : a + k < s.size) : Utf8.decode (s.extract a s.size) k = Utf8.decode s (a + k) :=
  dec_extract s a s.size k h (.inl (.inl (Nat.le_refl _)))
theorem uln_extract (s : ByteArray) (a b k : Nat) (h : a + k < b) (hb : nc s b ∨ a + k + 4 ≤ b) : uln (s.extract a b) k = uln s (a + k) := by unfold uln; rw [dec_extract s a b k h hb]
theorem uch_extract (s : ByteArray) (a b k : Nat) (h : a + k < b) (hb : nc s b ∨ a + k + 4 ≤ b) : uch (s.extract a b) k = uch s (a + k) := by unfold uch; rw [dec_extract s a b k h hb]
end Go.Bod
namespace Go.Bod
open Go.Lib

/-- The unit that begins at j goes on behind i. -/
def spn (s : ByteArray) (i j : Nat) : Bool := decide (i < j + uln s j)
/-- Where the unit begins in which i lies. -/
def dnw (s : ByteArray) (i : Nat) : Nat := ((List.range' (i - 3) (min 3 i)).find? (spn s i)).getD i
/-- Where it ends (i itself at the text's end). -/
def upw (s : ByteArray) (i : Nat) : Nat := if dnw s i = i ∧ i = s.size then i else dnw s i + uln s (dnw s i)
/-- Does a unit begin at i (or the text end there)? -/
def ub (s : ByteArray) (i : Nat) : Prop := ∀ j, j < i → j + uln s j ≤ i

theorem spn_lead {s : ByteArray} {i j : Nat} (hj : j < i) (h : spn s i j = true) : 192 ≤ bt s j ∧ ∀ k, j < k → k < j + uln s j → 128 ≤ bt s k ∧ bt s k < 192 := by
  have h' : i < j + uln s j := of_decide_eq_true h
  obtain ⟨a, b⟩ := uln_bytes s j (by omega)
  refine ⟨a, fun k h1 h2 => ?_⟩
  have := b (k - j) (by omega) (by omega)
  rwa [show j + (k - j) = k by omega] at this
/-- A byte that goes on a unit is, by itself, one bad byte. -/
theorem uln_cont {s : ByteArray} {j : Nat} (h : bt s j < 192) : uln s j = 1 := by
  by_cases h2 : 2 ≤ uln s j
  · have := (uln_bytes s j h2).1; omega
  · have := uln_pos s j; omega
theorem spn_one {s : ByteArray} {i j k : Nat} (hj : j < i) (hk : k < i) (h : spn s i j = true) (h' : spn s i k = true) : j = k := by
  have a := spn_lead hj h
  have b := spn_lead hk h'
  have h1 : i < j + uln s j := of_decide_eq_true h
  have h2 : i < k + uln s k := of_decide_eq_true h'
  rcases Nat.lt_trichotomy j k with hl | hl | hl
  · have := (a.2 k hl (by omega)); omega
  · exact hl
  · have := (b.2 j hl (by omega)); omega
theorem spn_near {s : ByteArray} {i j : Nat} (hj : j < i) (h : spn s i j = true) : i - 3 ≤ j := by
  have h1 : i < j + uln s j := of_decide_eq_true h
  have := uln_le4 s j
  omega
theorem dnw_of_spn {s : ByteArray} {i j : Nat} (hj : j < i) (h : spn s i j = true) : dnw s i = j := by
  unfold dnw
  cases hf : (List.range' (i - 3) (min 3 i)).find? (spn s i) with
  | none =>
    have := List.find?_eq_none.1 hf j (by rw [List.mem_range'_1]; have := spn_near hj h; omega)
    exact absurd h this
  | some k =>
    have hk := List.find?_some hf
    have hm := List.mem_of_find?_eq_some hf
    rw [List.mem_range'_1] at hm
    show k = j
    exact spn_one (by omega) hj hk h
theorem dnw_of_none {s : ByteArray} {i : Nat} (h : ∀ j, j < i → spn s i j = false) : dnw s i = i := by
  unfold dnw
  rw [List.find?_eq_none.2]; rfl
  intro j hj
  rw [List.mem_range'_1] at hj
  simp [h j (by omega)]
theorem dnw_none_near {s : ByteArray} {i : Nat} (h : ∀ j, i - 3 ≤ j → j < i → spn s i j = false) : dnw s i = i :=
  dnw_of_none fun j hj => by
    cases hs : spn s i j with
    | false => rfl
    | true => rw [h j (spn_near hj hs) hj] at hs; cases hs
theorem dnw_le (s : ByteArray) (i : Nat) : dnw s i ≤ i := by
  by_cases h : ∃ j, j < i ∧ spn s i j = true
  · obtain ⟨j, hj, h⟩ := h
    rw [dnw_of_spn hj h]; omega
  · rw [dnw_of_none (fun j hj => by cases hs : spn s i j with | false => rfl | true => exact absurd ⟨j, hj, hs⟩ h)]
    exact Nat.le_refl _
theorem ub_iff (s : ByteArray) (i : Nat) : ub s i ↔ dnw s i = i := by
  constructor
  · intro h
    exact dnw_of_none fun j hj => decide_eq_false (by have := h j hj; omega)
  · intro h j hj
    by_cases hs : i < j + uln s j
    · have := dnw_of_spn hj (decide_eq_true hs : spn s i j = true); omega
    · omega
instance (s : ByteArray) (i : Nat) : Decidable (ub s i) := decidable_of_iff _ (ub_iff s i).symm
theorem ub_zero (s : ByteArray) : ub s 0 := fun j hj => absurd hj (Nat.not_lt_zero _)
theorem ub_next {s : ByteArray} {i : Nat} (h : ub s i) : ub s (i + uln s i) := by
  intro j hj
  by_cases h1 : j < i
  · have := h j h1; omega
  · by_cases h2 : j = i
    · subst h2; exact Nat.le_refl _
    · have := (uln_bytes s i (by omega)).2 (j - i) (by omega) (by omega)
      rw [show i + (j - i) = j by omega] at this
      have := uln_cont this.2
      omega
/-- Between a unit's beginning and its end no unit begins. -/
theorem not_ub_inside {s : ByteArray} {i k : Nat} (h1 : i < k) (h2 : k < i + uln s i) : ¬ ub s k := fun h => by have := h i h1; omega
theorem dnw_ub (s : ByteArray) (i : Nat) : ub s (dnw s i) := by
  by_cases h : ∃ j, j < i ∧ spn s i j = true
  · obtain ⟨j, hj, h⟩ := h
    rw [dnw_of_spn hj h]
    have a := spn_lead hj h
    intro k hk
    by_cases hs : j < k + uln s k
    · have b := spn_lead hk (decide_eq_true hs : spn s j k = true)
      have := b.2 j hk hs; omega
    · omega
  · rw [dnw_of_none (fun j hj => by cases hs : spn s i j with | false => rfl | true => exact absurd ⟨j, hj, hs⟩ h)]
    intro j hj
    by_cases hs : i < j + uln s j
    · exact absurd ⟨j, hj, decide_eq_true hs⟩ h
    · omega
theorem dnw_of_ub {s : ByteArray} {i : Nat} (h : ub s i) : dnw s i = i := (ub_iff s i).1 h
theorem lt_dnw (s : ByteArray) (i : Nat) : i < dnw s i + uln s (dnw s i) := by
  by_cases h : ∃ j, j < i ∧ spn s i j = true
  · obtain ⟨j, hj, h⟩ := h
    rw [dnw_of_spn hj h]
    exact of_decide_eq_true h
  · rw [dnw_of_none (fun j hj => by cases hs : spn s i j with | false => rfl | true => exact absurd ⟨j, hj, hs⟩ h)]
    have := uln_pos s i; omega
theorem dnw_unique {s : ByteArray} {i j : Nat} (h : ub s j) (h1 : j ≤ i) (h2 : i < j + uln s j) : dnw s i = j := by
  by_cases hj : j = i
  · subst hj; exact dnw_of_ub h
  · exact dnw_of_spn (by omega) (decide_eq_true h2)
theorem uln_end (s : ByteArray) : uln s s.size = 1 := uln_cont (by rw [bt_ge s _ (Nat.le_refl _)]; omega)
theorem ub_size (s : ByteArray) : ub s s.size := fun j hj => uln_le s j hj
/-- A byte below 128 is a unit by itself. -/
theorem ub_ascii {s : ByteArray} {i : Nat} (h : bt s i < 128) : ub s i := by
  intro j hj
  by_cases hs : i < j + uln s j
  · have b := spn_lead hj (decide_eq_true hs : spn s i j = true)
    have := b.2 i hj hs; omega
  · omega
theorem uln_ascii {s : ByteArray} {i : Nat} (h : bt s i < 128) : uln s i = 1 := uln_cont (by omega)
theorem uch_ascii {s : ByteArray} {i : Nat} (h : bt s i < 128) : uch s i = bt s i := by
  unfold uch
  rw [dec_eq]
  unfold decodeN
  rw [if_pos h]
  simp only
  rw [if_neg (by omega)]
theorem ub_ascii_next {s : ByteArray} {i : Nat} (h : bt s i < 128) : ub s (i + 1) := by
  have := ub_next (ub_ascii h)
  rwa [uln_ascii h] at this
/-- A piece of a text: which unit a place lies in. -/
theorem spn_extract (s : ByteArray) (a b i j : Nat) (h : a + j < b) (hb : nc s b ∨ a + j + 4 ≤ b) : spn (s.extract a b) i j = spn s (a + i) (a + j) := by
  unfold spn
  rw [uln_extract s a b j h hb]
  exact decide_eq_decide.2 (by omega)
theorem ub_extract {s : ByteArray} {a b i : Nat} (hi : a + i ≤ b) (ha : ∀ j, j < a → j + uln s j ≤ a + i) (hb : nc s b ∨ a + i + 3 ≤ b) : ub (s.extract a b) i ↔ ub s (a + i) := by
  constructor
  · intro h j hj
    by_cases hja : j < a
    · exact ha j hja
    · have := h (j - a) (by omega)
      rw [uln_extract s a b (j - a) (by omega) (by rcases hb with hb | hb; exact .inl hb; exact .inr (by omega)), show a + (j - a) = j by omega] at this
      omega
  · intro h j hj
    rw [uln_extract s a b j (by omega) (by rcases hb with hb | hb; exact .inl hb; exact .inr (by omega))]
    have := h (a + j) (by omega)
    omega
theorem upw_of_spn {s : ByteArray} {i j : Nat} (hj : j < i) (h : spn s i j = true) : upw s i = j + uln s j := by
  unfold upw; rw [dnw_of_spn hj h, if_neg (by omega)]
theorem upw_of_ub {s : ByteArray} {i : Nat} (h : dnw s i = i) (hi : i ≠ s.size) : upw s i = i + uln s i := by
  unfold upw; rw [h, if_neg (fun h => hi h.2)]
theorem upw_end (s : ByteArray) : upw s s.size = s.size := by
  unfold upw; rw [dnw_of_ub (ub_size s), if_pos ⟨rfl, rfl⟩]
theorem lt_upw {s : ByteArray} {i : Nat} (hi : i < s.size) : i < upw s i := by
  unfold upw; rw [if_neg (by omega)]; exact lt_dnw s i
theorem upw_le {s : ByteArray} {i : Nat} (hi : i ≤ s.size) : upw s i ≤ s.size := by
  by_cases h : i = s.size
  · subst h; rw [upw_end]; exact Nat.le_refl _
  · unfold upw; rw [if_neg (by omega)]; exact uln_le s _ (by have := dnw_le s i; omega)
/-- 'upw' is the least place behind i where a unit begins. -/
theorem upw_ub {s : ByteArray} {i : Nat} (hi : i < s.size) : ub s (upw s i) := by
  unfold upw; rw [if_neg (by omega)]; exact ub_next (dnw_ub s i)
theorem upw_least {s : ByteArray} {i k : Nat} (h1 : i < k) (h2 : k < upw s i) (hi : i < s.size) : ¬ ub s k := by
  unfold upw at h2; rw [if_neg (by omega)] at h2
  exact not_ub_inside (by have := dnw_le s i; omega) h2
theorem dnw_greatest {s : ByteArray} {i k : Nat} (h1 : dnw s i < k) (h2 : k ≤ i) : ¬ ub s k :=
  not_ub_inside h1 (by have := lt_dnw s i; omega)
end Go.Bod
namespace Go.Bod
open Go.RowKit Go.Lib

/-- The two tables of unicode/utf8 lie as they are laid (blocks 0 and 1). -/
def Tabs (w : World) : Prop := Lib.Utf8Tabs 0 1 w

theorem cells_lt {w : World} {b o : Nat} {v : Value} (h : w.cell? ⟨b, o, none⟩ = some v) : b < w.heap.size := by
  have := World.block_lt_of_cell? _ _ h
  exact this
theorem Tabs.lt {w : World} (h : Tabs w) : 0 < w.heap.size ∧ 1 < w.heap.size := ⟨cells_lt (h.1 0 (by decide)), cells_lt (h.2 0 (by decide)).1⟩
theorem Tabs.below {B : Nat} {w w' : World} (h : Tabs w) (hb : Below B w w') (hB : 1 < B) : Tabs w' :=
  ⟨fun c hc => by rw [hb.cell (p := ⟨0, c, none⟩) (by show 0 < B; omega)]; exact h.1 c hc,
   fun i hi => by rw [hb.cell (p := ⟨1, 2 * i, none⟩) hB, hb.cell (p := ⟨1, 2 * i + 1, none⟩) hB]; exact h.2 i hi⟩
theorem Tabs.of {w w' : World} (h : Tabs w) (hb : Below w.heap.size w w') : Tabs w' := h.below hb h.lt.2
theorem Tabs.alloc {w : World} (h : Tabs w) (o : Obj) : Tabs (w.alloc o) := h.of ((Below.refl _ _).alloc (Nat.le_refl _) o)
theorem Tabs.drew {w : World} (h : Tabs w) : Tabs w.drew := h.of (Below.refl _ _).drew

theorem bcell {W w1 : World} (hb : Below W.heap.size W w1) : (∀ b o, b < W.heap.size → w1.cell? ⟨b, o, none⟩ = W.cell? ⟨b, o, none⟩) ∧ (∀ b o, b < W.heap.size → w1.frozen? ⟨b, o, none⟩ = W.frozen? ⟨b, o, none⟩) :=
  ⟨fun b o h => hb.cell (p := ⟨b, o, none⟩) h, fun b o h => hb.frozen (p := ⟨b, o, none⟩) h⟩
/-- From an elder world on. -/
theorem below_from {a w w' : World} (h : Below a.heap.size a w) (hb : Below w.heap.size w w') : Below a.heap.size a w' := h.trans (hb.mono h.size)
theorem below_alloc {a w : World} (h : Below a.heap.size a w) (o : Obj) : Below a.heap.size a (w.alloc o) := h.alloc h.size o
theorem below_drewN {B : Nat} {a w : World} (h : Below B a w) (n : Nat) : Below B a (w.drewN n) := ⟨h.os, h.tape, h.output, h.size, h.block⟩
/-- The first block that a call made may be written. -/
theorem below_of_alloc {w w' : World} {o : Obj} (hb : Below (w.alloc o).heap.size (w.alloc o) w') : Below w.heap.size w w' :=
  ((Below.refl _ w).alloc (Nat.le_refl _) o).trans (hb.mono (by simp))
theorem alloc_get (w : World) (o : Obj) : (w.alloc o).heap[w.heap.size]? = some o := by
  show (w.heap.push o)[w.heap.size]? = _
  simp
/-- A block that is known whole: its cells. -/
theorem cell_of_block {w : World} {b : Nat} {cs : Array Value} {t : TypeId} {fz : Nat × Nat} (h : w.heap[b]? = some (.cells cs t fz)) (o : Nat) : w.cell? ⟨b, o, none⟩ = cs[o]? := by
  simp [World.cell?, h]
theorem block_lt {w : World} {b : Nat} {o : Obj} (h : w.heap[b]? = some o) : b < w.heap.size := by
  rcases Nat.lt_or_ge b w.heap.size with h' | h'
  · exact h'
  · rw [Array.getElem?_eq_none h'] at h; cases h

theorem int_eq {k : IntKind} {a b : Int} (h : a = b) : Value.int k a = .int k b := by rw [h]
theorem cell_new (W : World) (v : Value) (t : TypeId) : (W.alloc (.cells #[v] t)).cell? ⟨W.heap.size, 0, none⟩ = some v := by
  rw [cell_of_block (alloc_get W _)]; rfl
theorem cell_old {W : World} {a : Addr} {v : Value} (o : Obj) (h : W.cell? a = some v) : (W.alloc o).cell? a = some v := by
  have hb := World.block_lt_of_cell? _ _ h
  rw [((Below.refl W.heap.size W).alloc (Nat.le_refl _) o).cell hb]; exact h
theorem block_old {W : World} {b : Nat} {x : Obj} (o : Obj) (h : W.heap[b]? = some x) : (W.alloc o).heap[b]? = some x := by
  rw [((Below.refl W.heap.size W).alloc (Nat.le_refl _) o).block b (block_lt h)]; exact h
theorem cell_via {W w : World} {a : Addr} {v : Value} (hb : Below W.heap.size W w) (h : W.cell? a = some v) : w.cell? a = some v := by
  rw [hb.cell (World.block_lt_of_cell? _ _ h)]; exact h
theorem block_via {W w : World} {b : Nat} {x : Obj} (hb : Below W.heap.size W w) (h : W.heap[b]? = some x) : w.heap[b]? = some x := by
  rw [hb.block b (block_lt h)]; exact h
/-! Endings: equal numbers give equal values. -/
theorem ret_i {k : IntKind} {a b : Int} (h : a = b) : Ending.returned (.int k a) = .returned (.int k b) := by rw [h]
theorem ret_b {a b : Bool} (h : a = b) : Ending.returned (.bool a) = .returned (.bool b) := by rw [h]
theorem ret_agg2 {k l : IntKind} {a b c d : Int} (h : a = c) (h' : b = d) : Ending.returned (.agg #[.int k a, .int l b]) = .returned (.agg #[.int k c, .int l d]) := by rw [h, h']
theorem ret_tup2 {k l : IntKind} {a b c d : Int} (h : a = c) (h' : b = d) : Ending.returned (.tuple #[.int k a, .int l b]) = .returned (.tuple #[.int k c, .int l d]) := by rw [h, h']
theorem ret_ib {k : IntKind} {a c : Int} {b d : Bool} (h : a = c) (h' : b = d) : Ending.returned (.tuple #[.int k a, .bool b]) = .returned (.tuple #[.int k c, .bool d]) := by rw [h, h']
end Go.Bod
namespace Go.Proofs.YtmelgecjaonbbaaGreatDoor
open Go.RowKit Go.Bod

theorem fld_Unit_Size (a b : Int) (w : World) : (Instr.field 187 (.agg #[.int .i32 a, .int .i64 b]) 1).run Tryz.prog w = .ok (.int .i64 b) w := by kernel_rfl
theorem fld_Unit_Char (a b : Int) (w : World) : (Instr.field 187 (.agg #[.int .i32 a, .int .i64 b]) 0).run Tryz.prog w = .ok (.int .i32 a) w := by kernel_rfl

theorem first_any (s : ByteArray) (w : World) (hs : 0 < s.size) (hT : Tabs w) :
    Calls Tryz.prog 201 #[.string s] w fun e w' => e = .returned (.agg #[.int .i32 (uch s 0), .int .i64 (uln s 0)]) ∧ Below w.heap.size w w' := by
  have hd : Lib.decodeGo s = Utf8.decode s 0 := by unfold Lib.decodeGo; rw [if_neg (by omega)]
  have hu : uch s 0 = if (Lib.decodeGo s).1 = 65533 ∧ (Lib.decodeGo s).2 = 1 then -1 else ((Lib.decodeGo s).1 : Int) := by rw [hd]; rfl
  have hl : uln s 0 = (Lib.decodeGo s).2 := by rw [hd]; rfl
  generalize uch s 0 = c at *
  generalize uln s 0 = n at *
  have HU := Lib.hid hu
  have HL := Lib.hid hl
  clear hd hu hl
  go_enter Tryz.func201, Tryz.ntmps201
  go_wp2_with (go_at_call 229; refine (Tryz.utf8_DecodeRuneInString _ _ (Tabs.alloc hT _)).mono ?_; rintro e w' ⟨rfl, hb⟩; obtain ⟨hc, hf⟩ := bcell hb)
  all_goals
    have hB : Below w.heap.size w w' := below_of_alloc hb
    have hz : w.heap.size < w'.heap.size := by have := hb.size; simp at this; omega
  · have h2 : (Lib.decodeGo s).2 = 1 := by have := beq_iff_eq.1 ‹_›; omega
    have h1 : (Lib.decodeGo s).1 = 65533 := by omega
    refine bodyPost_ret (v := .agg #[.int .i32 (-1), .int .i64 1]) (by simp [results, Tryz.results201, go_sem, hc]) rfl ⟨ret_agg2 ?_ ?_, (hB.setCell (Nat.le_refl _) _).setCell (Nat.le_refl _) _⟩
    · rw [HU.out, if_pos ⟨h1, h2⟩]
    · rw [HL.out, h2]; rfl
  · have h2 : ¬ (Lib.decodeGo s).2 = 1 := by have := beq_eq_false_iff_ne.1 ‹_›; omega
    have h1 : (Lib.decodeGo s).1 = 65533 := by omega
    refine bodyPost_ret (v := .agg #[.int .i32 65533, .int .i64 (Lib.decodeGo s).2]) (by simp [results, Tryz.results201, go_sem, hc]) rfl ⟨ret_agg2 ?_ ?_, (hB.setCell (Nat.le_refl _) _).setCell (Nat.le_refl _) _⟩
    · rw [HU.out, if_neg (fun h => h2 h.2), h1]; rfl
    · rw [HL.out]
  · have h1 : ¬ (Lib.decodeGo s).1 = 65533 := by omega
    refine bodyPost_ret (v := .agg #[.int .i32 (Lib.decodeGo s).1, .int .i64 (Lib.decodeGo s).2]) (by simp [results, Tryz.results201, go_sem, hc]) rfl ⟨ret_agg2 ?_ ?_, (hB.setCell (Nat.le_refl _) _).setCell (Nat.le_refl _) _⟩
    · rw [HU.out, if_neg (fun h => h1 h.1)]
    · rw [HL.out]

theorem first_from (s : ByteArray) (j : Nat) (w : World) (hs : j < s.size) (hT : Tabs w) :
    Calls Tryz.prog 201 #[.string (s.extract j s.size)] w fun e w' => e = .returned (.agg #[.int .i32 (uch s j), .int .i64 (uln s j)]) ∧ Below w.heap.size w w' := by
  have h := first_any (s.extract j s.size) w (by rw [size_extract]; omega) hT
  rwa [uch_extract s j s.size 0 (by omega) (.inl (.inl (Nat.le_refl _))), uln_extract s j s.size 0 (by omega) (.inl (.inl (Nat.le_refl _))), Nat.add_zero] at h

/-- Between two rounds of 'around'. -/
def AroundRel (s : ByteArray) (i : Nat) (w : World) (v : Value) (wr : World) : Prop :=
  ∃ j : Nat, v = .int .i64 j ∧ i - 3 ≤ j ∧ j ≤ i ∧ (∀ k, i - 3 ≤ k → k < j → spn s i k = false) ∧ Below w.heap.size w wr

set_option maxRecDepth 100000 in
theorem around_any (s : ByteArray) (i : Int) (w : World) (h0 : 0 ≤ i) (h1 : i ≤ s.size) (hs : s.size ≤ 4611686018427387904) (hT : Tabs w) :
    Calls Tryz.prog 143 #[.string s, .int .i64 i] w fun e w' => e = .returned (.tuple #[.int .i64 (dnw s i.toNat), .int .i64 (upw s i.toNat)]) ∧ Below w.heap.size w w' := by
  obtain ⟨i, rfl⟩ := Int.eq_ofNat_of_zero_le h0
  rw [Int.toNat_natCast]
  go_enter Tryz.func143, Tryz.ntmps143
  go_wp2
  go_loopw [6] (AroundRel s i w) (fun v _ => i - (intOf v).toNat)
  case atStart => exact ⟨i - 3, by congr 1; omega, Nat.le_refl _, by omega, fun k h1 h2 => by omega, Below.refl _ _⟩
  case round =>
    obtain ⟨j, rfl, hj1, hj2, hj3, hB⟩ := hrel
    have HJ := Lib.hid hj3
    clear hj3
    by_cases hlt : j < i
    · have hT2 := hT.below hB hT.lt.2
      have hl := uln_le s j (by omega)
      go_wp2_with (go_at_call 201; refine (first_from s j _ (by omega) hT2).mono ?_; rintro e w' ⟨rfl, hb⟩; obtain ⟨hc, hf⟩ := bcell hb)
      · have hsp : spn s i j = true := decide_eq_true (by omega)
        have hd := dnw_of_spn hlt hsp
        have hu := upw_of_spn hlt hsp
        have HD := Lib.hid hd
        have HU := Lib.hid hu
        clear hd hu hsp
        go_quiet (fail)
        go_wp2
        go_ret2
        exact ⟨ret_tup2 (by rw [HD.out]) (by rw [HU.out]; omega), below_drewN ((below_from hB hb).alloc (by have := hB.size; have := hb.size; omega) _) _⟩
      · go_roundw
        case rel =>
          refine ⟨j + 1, by go_num, by omega, by omega, fun k h1 h2 => ?_, (below_from hB hb).alloc (by have := hB.size; have := hb.size; omega) _⟩
          by_cases hk : k < j
          · exact HJ.out k h1 hk
          · obtain rfl : k = j := by omega
            exact decide_eq_false (by omega)
        case measure => simp [intOf]; omega
    · obtain rfl : j = i := by omega
      have hT2 := hT.below hB hT.lt.2
      have hd : dnw s j = j := dnw_none_near HJ.out
      by_cases he : j = s.size
      · have hu : upw s j = j := by rw [he]; exact upw_end s
        have HD := Lib.hid hd
        have HU := Lib.hid hu
        have ht : ((j : Int) == (s.size : Int)) = true := by rw [beq_iff_eq]; omega
        clear hd hu he
        go_wp2
        go_ret2
        exact ⟨ret_tup2 (by rw [HD.out]) (by rw [HU.out]), hB⟩
      · have hu : upw s j = j + uln s j := upw_of_ub hd he
        have hl := uln_le s j (by omega)
        have HD := Lib.hid hd
        have HU := Lib.hid hu
        have ht : ((j : Int) == (s.size : Int)) = false := by rw [beq_eq_false_iff_ne]; omega
        have he' : j < s.size := by omega
        clear hd hu he
        have hfd := fld_Unit_Size
        go_wp2_with (go_at_call 201; refine (first_from s j _ he' hT2).mono ?_; rintro e w' ⟨rfl, hb⟩)
        go_ret2
        exact ⟨ret_tup2 (by rw [HD.out]) (by rw [HU.out]; omega), below_from hB hb⟩

theorem Boundary_any (s : ByteArray) (i : Int) (w : World) (h0 : 0 ≤ i) (h1 : i ≤ s.size) (hs : s.size ≤ 4611686018427387904) (hT : Tabs w) :
    Calls Tryz.prog 144 #[.string s, .int .i64 i] w fun e w' => e = .returned (.bool (decide (ub s i.toNat))) ∧ Below w.heap.size w w' := by
  obtain ⟨i, rfl⟩ := Int.eq_ofNat_of_zero_le h0
  go_enter Tryz.func144, Tryz.ntmps144
  go_wp2_with (go_at_call 143; refine (around_any s i _ h0 h1 hs hT).mono ?_; rintro e w' ⟨rfl, hb⟩)
  go_ret
  refine ⟨ret_b ?_, hb⟩
  rw [Int.toNat_natCast, Bool.eq_iff_iff, beq_iff_eq, decide_eq_true_eq, ub_iff]; omega

set_option maxRecDepth 100000 in
theorem At_any (s : ByteArray) (i : Int) (w : World) (h0 : 0 ≤ i) (h1 : i < s.size) (hs : s.size ≤ 4611686018427387904) (hu : ub s i.toNat) (hT : Tabs w) :
    Calls Tryz.prog 145 #[.string s, .int .i64 i] w fun e w' => e = .returned (.tuple #[.agg #[.int .i32 (uch s i.toNat), .int .i64 (uln s i.toNat)], .bool true]) ∧ Below w.heap.size w w' := by
  obtain ⟨i, rfl⟩ := Int.eq_ofNat_of_zero_le h0
  rw [Int.toNat_natCast] at *
  have hub := Lib.hid hu
  have hcB : ∀ w, Tabs w → Calls Tryz.prog 144 #[.string s, .int .i64 i] w fun e w' => e = .returned (.bool true) ∧ Below w.heap.size w w' := fun w hT => by
    have := Boundary_any s i w h0 (by omega) hs hT
    rwa [Int.toNat_natCast, decide_eq_true hub.out] at this
  have HB := Lib.hid hcB
  clear hcB hu
  go_enter Tryz.func145, Tryz.ntmps145
  go_wp2_with (first
    | (go_at_call 144; refine (HB.out _ (hT.alloc _)).mono ?_; rintro e w' ⟨rfl, hb⟩; obtain ⟨hc, hf⟩ := bcell hb)
    | (go_at_call 201; refine (first_from s i _ (by omega) ((hT.alloc _).of hb)).mono ?_; rintro e w2 ⟨rfl, hb2⟩; have hb3 := below_from hb hb2; clear hc hf; obtain ⟨hc2, hf2⟩ := bcell hb3))
  have hB : Below w.heap.size w w2 := below_of_alloc hb3
  have hz : w.heap.size < w2.heap.size := by have := hb3.size; simp at this; omega
  refine bodyPost_ret (v := .tuple #[.agg #[.int .i32 (uch s i), .int .i64 (uln s i)], .bool true]) (by simp [results, Tryz.results145, go_sem, hc2]) rfl ⟨rfl, (hB.setCell (Nat.le_refl _) _).setCell (Nat.le_refl _) _⟩

theorem Down_any (s : ByteArray) (i : Int) (w : World) (hs : s.size ≤ 4611686018427387904) (hT : Tabs w) :
    Calls Tryz.prog 202 #[.string s, .int .i64 i] w fun e w' => e = .returned (.int .i64 (dnw s (min (max i 0) s.size).toNat)) ∧ Below w.heap.size w w' := by
  go_enter Tryz.func202, Tryz.ntmps202
  go_wp2_with (go_at_call 143; refine (around_any s _ _ (by omega) (by omega) hs hT).mono ?_; rintro e w' ⟨rfl, hb⟩)
  go_ret
  exact ⟨rfl, hb⟩

theorem Prev_any (s : ByteArray) (i : Int) (w : World) (h0 : 0 < i) (hi : i ≤ 4611686018427387904) (hs : s.size ≤ 4611686018427387904) (hT : Tabs w) :
    Calls Tryz.prog 146 #[.string s, .int .i64 i] w fun e w' => e = .returned (.int .i64 (dnw s (min (i - 1) s.size).toNat)) ∧ Below w.heap.size w w' := by
  go_enter Tryz.func146, Tryz.ntmps146
  go_wp2_with (go_at_call 202; refine (Down_any s _ _ hs hT).mono ?_; rintro e w' ⟨rfl, hb⟩)
  go_ret
  exact ⟨ret_i (by congr 2; omega), hb⟩

theorem Next_any (s : ByteArray) (i : Int) (w : World) (h0 : 0 ≤ i) (hs : s.size ≤ 4611686018427387904) (hT : Tabs w) :
    Calls Tryz.prog 66 #[.string s, .int .i64 i] w fun e w' => e = .returned (.int .i64 (upw s (min i s.size).toNat)) ∧ Below w.heap.size w w' := by
  go_enter Tryz.func66, Tryz.ntmps66
  go_wp2_with (go_at_call 143; refine (around_any s _ _ (by omega) (by omega) hs hT).mono ?_; rintro e w' ⟨rfl, hb⟩)
  go_ret
  exact ⟨rfl, hb⟩
end Go.Proofs.YtmelgecjaonbbaaGreatDoor
namespace Go.Bod
open Go.Lib

def marksL : List Int := [768, 879, 1155, 1161, 1425, 1469, 1471, 1471, 1473, 1474, 1552, 1562, 1611, 1631, 1648, 1648, 1750, 1756, 2304, 2306, 2364, 2364, 2381, 2381, 3633, 3633, 3636, 3642, 3655, 3662, 4957, 4959, 6832, 6911, 7616, 7679, 8204, 8205, 8400, 8447, 12330, 12335, 12441, 12442, 65024, 65039, 65056, 65071, 127995, 127999, 917760, 917999]

def widesL : List Int := [4352, 4447, 8986, 8987, 9001, 9002, 9193, 9196, 9725, 9726, 9748, 9749, 9800, 9811, 9898, 9899, 11904, 12329, 12336, 12350, 12353, 12440, 12443, 19903, 19968, 42191, 43360, 43391, 44032, 55203, 63744, 64255, 65072, 65135, 65281, 65376, 65504, 65510, 94176, 101119, 110592, 111359, 127744, 127994, 128000, 128591, 128640, 128767, 129280, 129535, 131072, 196605, 196608, 262141]

/-- Does a number lie in one of the ranges of a table? -/
def inTab (L : List Int) (c : Int) : Bool := (List.range (L.length / 2)).any fun k => decide (L.getD (2 * k) 0 ≤ c) && decide (c ≤ L.getD (2 * k + 1) 0)

/-- A character's class, as the two tables and the limits tell it. -/
def cls (c : Int) : Int :=
  if c < 0 ∨ 1114111 < c ∨ (55296 ≤ c ∧ c ≤ 57343) then 5 else if c = 10 then 1 else if c < 32 ∨ (127 ≤ c ∧ c ≤ 159) then 2
  else if inTab marksL c = true then 3 else if inTab widesL c = true then 4 else 0
/-- The cells of a cluster that begins with a character. -/
def wcl (c : Int) : Int := if cls c = 1 then 0 else if cls c = 4 then 2 else if cls c = 2 ∧ c ≤ 127 then 2 else 1

theorem cls_le (c : Int) : 0 ≤ cls c ∧ cls c ≤ 5 := by
  unfold cls
  repeat' split
  all_goals omega


theorem cls_ten : cls 10 = 1 := by decide
theorem cls_cr : cls 13 = 2 := by decide
theorem cls_eq_one {c : Int} (h : cls c = 1) : c = 10 := by
  unfold cls at h
  repeat' split at h
  all_goals first | assumption | (exfalso; omega)

/-- Does no boundary stand between two characters, one right behind the other? -/
def jn (u v : Int) : Bool := (decide (u = 13) && decide (v = 10)) || (decide (cls v = 3) && !decide (cls u = 1) && !decide (cls u = 2))
/-- The character of the unit that ends at i, or in which i - 1 lies. -/
def uprev (s : ByteArray) (i : Nat) : Int := uch s (dnw s (i - 1))
/-- Is there a cluster's boundary at i? -/
def cb (s : ByteArray) (i : Nat) : Bool :=
  if i = 0 ∨ s.size ≤ i then decide (i = 0 ∨ i = s.size) else decide (ub s i) && !jn (uprev s i) (uch s i)

theorem cb_zero (s : ByteArray) : cb s 0 = true := by simp [cb]
theorem cb_size (s : ByteArray) : cb s s.size = true := by simp [cb]
theorem cb_big {s : ByteArray} {i : Nat} (h : s.size < i) : cb s i = false := by
  unfold cb; rw [if_pos (.inr (by omega))]; simp; omega
theorem cb_mid {s : ByteArray} {i : Nat} (h0 : 0 < i) (h : i < s.size) : cb s i = (decide (ub s i) && !jn (uprev s i) (uch s i)) := by
  unfold cb; rw [if_neg (by omega)]
theorem cb_ub {s : ByteArray} {i : Nat} (h : cb s i = true) : ub s i := by
  by_cases h0 : i = 0
  · subst h0; exact ub_zero s
  · by_cases h1 : i = s.size
    · subst h1; exact ub_size s
    · by_cases h2 : i < s.size
      · rw [cb_mid (by omega) h2] at h
        simp at h; exact h.1
      · rw [cb_big (by omega)] at h; cases h
theorem cb_le {s : ByteArray} {i : Nat} (h : cb s i = true) : i ≤ s.size := by
  rcases Nat.lt_or_ge s.size i with hl | hl
  · rw [cb_big hl] at h; cases h
  · exact hl

/-- The least place above i at which p holds, or n. -/
def nextP (p : Nat → Bool) (n i : Nat) : Nat := if h : i < n then (if p (i + 1) then i + 1 else nextP p n (i + 1)) else n
  termination_by n - i
/-- The greatest place below i at which p holds, or 0. -/
def prevP (p : Nat → Bool) : Nat → Nat
  | 0 => 0
  | i + 1 => if p i then i else prevP p i

theorem nextP_le (p : Nat → Bool) (n : Nat) : ∀ k i, n - i = k → nextP p n i ≤ n := by
  intro k
  induction k with
  | zero => intro i h; unfold nextP; rw [dif_neg (by omega)]; exact Nat.le_refl _
  | succ k ih =>
    intro i h
    unfold nextP
    rw [dif_pos (by omega)]
    split
    · omega
    · exact ih (i + 1) (by omega)
theorem nextP_spec (p : Nat → Bool) (n : Nat) : ∀ k i, n - i = k → i < n → i < nextP p n i ∧ nextP p n i ≤ n ∧ (p (nextP p n i) = true ∨ nextP p n i = n) ∧ ∀ j, i < j → j < nextP p n i → p j = false := by
  intro k
  induction k with
  | zero => intro i h h'; omega
  | succ k ih =>
    intro i h h'
    unfold nextP
    rw [dif_pos h']
    split
    · rename_i hp
      exact ⟨by omega, by omega, .inl hp, fun j h1 h2 => by omega⟩
    · rename_i hp
      have hp' : p (i + 1) = false := by simpa using hp
      by_cases hl : i + 1 < n
      · obtain ⟨a, b, c, d⟩ := ih (i + 1) (by omega) hl
        refine ⟨by omega, b, c, fun j h1 h2 => ?_⟩
        by_cases hj : j = i + 1
        · rw [hj]; exact hp'
        · exact d j (by omega) h2
      · have : nextP p n (i + 1) = n := by unfold nextP; rw [dif_neg hl]
        rw [this]
        refine ⟨h', Nat.le_refl _, .inr rfl, fun j h1 h2 => by omega⟩
theorem nextP_eq {p : Nat → Bool} {n i r : Nat} (h0 : i < n) (h1 : i < r) (h2 : r ≤ n) (h3 : p r = true ∨ r = n) (h4 : ∀ j, i < j → j < r → p j = false) : nextP p n i = r := by
  obtain ⟨a, b, c, d⟩ := nextP_spec p n _ i rfl h0
  rcases Nat.lt_trichotomy (nextP p n i) r with h | h | h
  · rcases c with c | c
    · rw [h4 _ a h] at c; cases c
    · omega
  · exact h
  · rcases h3 with h3 | h3
    · rw [d r h1 h] at h3; cases h3
    · omega
theorem nextP_end {p : Nat → Bool} {n i : Nat} (h : n ≤ i) : nextP p n i = n := by unfold nextP; rw [dif_neg (by omega)]
theorem prevP_spec (p : Nat → Bool) : ∀ i, 0 < i → prevP p i < i ∧ (p (prevP p i) = true ∨ prevP p i = 0) ∧ ∀ j, prevP p i < j → j < i → p j = false := by
  intro i
  induction i with
  | zero => intro h; omega
  | succ i ih =>
    intro _
    unfold prevP
    split
    · rename_i hp; exact ⟨by omega, .inl hp, fun j h1 h2 => by omega⟩
    · rename_i hp
      have hp' : p i = false := by simpa using hp
      by_cases h0 : i = 0
      · subst h0; exact ⟨by simp [prevP], .inr rfl, fun j h1 h2 => by omega⟩
      · obtain ⟨a, b, c⟩ := ih (by omega)
        refine ⟨by omega, b, fun j h1 h2 => ?_⟩
        by_cases hj : j = i
        · rw [hj]; exact hp'
        · exact c j h1 (by omega)
theorem prevP_eq {p : Nat → Bool} {i r : Nat} (h0 : r < i) (h1 : p r = true ∨ r = 0) (h2 : ∀ j, r < j → j < i → p j = false) : prevP p i = r := by
  obtain ⟨a, b, c⟩ := prevP_spec p i (by omega)
  rcases Nat.lt_trichotomy (prevP p i) r with h | h | h
  · rcases h1 with h1 | h1
    · rw [c r h h0] at h1; cases h1
    · omega
  · exact h
  · rcases b with b | b
    · rw [h2 _ h a] at b; cases b
    · omega

/-- The least boundary above i, the greatest below it, the least that is not below it. -/
def cnext (s : ByteArray) (i : Nat) : Nat := nextP (cb s) s.size i
def cprev (s : ByteArray) (i : Nat) : Nat := prevP (cb s) i
def csnap (s : ByteArray) (i : Nat) : Nat := if cb s i = true then i else cnext s i

theorem cnext_spec {s : ByteArray} {i : Nat} (h : i < s.size) : i < cnext s i ∧ cnext s i ≤ s.size ∧ cb s (cnext s i) = true ∧ ∀ j, i < j → j < cnext s i → cb s j = false := by
  obtain ⟨a, b, c, d⟩ := nextP_spec (cb s) s.size _ i rfl h
  refine ⟨a, b, ?_, d⟩
  rcases c with c | c
  · exact c
  · show cb s (nextP (cb s) s.size i) = true
    rw [c]; exact cb_size s
theorem cnext_eq {s : ByteArray} {i r : Nat} (h1 : i < r) (h3 : cb s r = true) (h4 : ∀ j, i < j → j < r → cb s j = false) : cnext s i = r :=
  nextP_eq (by have := cb_le h3; omega) h1 (cb_le h3) (.inl h3) h4
theorem cnext_end {s : ByteArray} {i : Nat} (h : s.size ≤ i) : cnext s i = s.size := nextP_end h
/-- The class and the cells of the cluster that begins at a place. -/
def crlf (s : ByteArray) (i : Nat) : Prop := uch s i = 13 ∧ i + 1 < s.size ∧ bt s (i + 1) = 10
instance (s : ByteArray) (i : Nat) : Decidable (crlf s i) := by unfold crlf; infer_instance
def mcls (s : ByteArray) (i : Nat) : Int := if crlf s i then 1 else cls (uch s i)
def mcel (s : ByteArray) (i : Nat) : Int := if crlf s i then 0 else wcl (uch s i)
end Go.Bod
namespace Go.Proofs.YtmelgecjaonbbaaGreatDoor
open Go.RowKit Go.Bod

/-- Where a search that goes by halves ends. -/
def Least (n : Nat) (p : Nat → Bool) (r : Nat) : Prop := r ≤ n ∧ (∀ t, t < r → p t = false) ∧ (∀ t, r ≤ t → t < n → p t = true)
/-- Between two rounds of the search. -/
def SearchRel (n : Nat) (p : Nat → Bool) (w : World) (u v : Value) (wr : World) : Prop :=
  ∃ lo hi : Nat, u = .int .i64 lo ∧ v = .int .i64 hi ∧ lo ≤ hi ∧ hi ≤ n ∧ (∀ t, t < lo → p t = false) ∧ (∀ t, hi ≤ t → t < n → p t = true) ∧ Below w.heap.size w wr

theorem half (lo hi : Nat) (h : lo + hi < 9223372036854775808) : ((lo : Int) + hi) / 2 = (((lo + hi) / 2 : Nat) : Int) := by omega

set_option maxRecDepth 100000 in
theorem Search_any (n : Nat) (g : Nat) (cb : Array Value) (p : Nat → Bool) (w : World) (eg : ∀ args w, (callFunc g args).run Tryz.prog w = .ok (.enter g args) w) (hn : n ≤ 2305843009213693952)
    (hf : ∀ (i : Nat) wr, i < n → Below w.heap.size w wr → Calls Tryz.prog g (#[.int .i64 i] ++ cb) wr fun e w' => e = .returned (.bool (p i)) ∧ Below wr.heap.size wr w')
    (hmono : ∀ a b, a ≤ b → b < n → p a = true → p b = true) :
    Calls Tryz.prog 223 #[.int .i64 n, .func (.func g) #[] cb] w fun e w' => (∃ r : Nat, e = .returned (.int .i64 r) ∧ Least n p r) ∧ Below w.heap.size w w' := by
  have HF := Lib.hid hf
  have HM := Lib.hid hmono
  clear hf hmono
  go_enter Tryz.func223, Tryz.ntmps223
  go_wp2
  go_loopw [5, 6] (SearchRel n p w) (fun u v _ => ((RowKit.intOf v).toNat - (RowKit.intOf u).toNat))
  case atStart => exact ⟨0, n, rfl, rfl, Nat.zero_le _, Nat.le_refl _, fun t h => absurd h (Nat.not_lt_zero _), fun t h1 h2 => by omega, Below.refl _ _⟩
  case round =>
    obtain ⟨lo, hi, rfl, rfl, h1, h2, h3, h4, hB⟩ := hrel
    have H3 := Lib.hid h3
    have H4 := Lib.hid h4
    clear h3 h4
    by_cases hlt : lo < hi
    · have hm1 : lo ≤ (lo + hi) / 2 := by omega
      have hm2 : (lo + hi) / 2 < hi := by omega
      have hc := HF.out ((lo + hi) / 2) _ (by omega) hB
      rw [show (((lo + hi) / 2 : Nat) : Int) = ((lo : Int) + hi) / 2 from by omega] at hc
      cases hp : p ((lo + hi) / 2)
      · rw [hp] at hc
        have HP := Lib.hid hp
        clear hp
        go_wp2_with fail
        refine hc.mono ?_
        rintro e w' ⟨rfl, hb⟩
        clear hc
        go_wp2
        go_roundw
        case rel =>
          refine ⟨(lo + hi) / 2 + 1, hi, int_eq (by omega), rfl, by omega, h2, fun t ht => ?_, H4.out, below_from hB hb⟩
          cases hq : p t with
          | false => rfl
          | true => have := HM.out t ((lo + hi) / 2) (by omega) (by omega) hq; rw [HP.out] at this; cases this
        case measure => simp [RowKit.intOf]; omega
      · rw [hp] at hc
        have HP := Lib.hid hp
        clear hp
        go_wp2_with fail
        refine hc.mono ?_
        rintro e w' ⟨rfl, hb⟩
        clear hc
        go_wp2
        go_roundw
        case rel => exact ⟨lo, (lo + hi) / 2, rfl, int_eq (by omega), by omega, by omega, H3.out, fun t t1 t2 => HM.out _ t t1 t2 HP.out, below_from hB hb⟩
        case measure => simp [RowKit.intOf]; omega
    · go_wp2
      go_ret
      exact ⟨⟨lo, rfl, by omega, H3.out, fun t a b => H4.out t (by omega) b⟩, hB⟩

theorem marks_any (w : World) :
    Calls Tryz.prog 226 #[] w fun e w' => e = .returned (.slice (some ⟨w.heap.size, 0, none⟩) 52 52) ∧ w'.heap[w.heap.size]? = some (.cells (marksL.map (Value.int .i32)).toArray 21 (0, 0)) ∧ Below w.heap.size w w' := by
  go_enter Tryz.func226, Tryz.ntmps226
  go_wp2
  go_ret
  exact ⟨rfl, alloc_get _ _, below_alloc (Below.refl _ _) _⟩
theorem wides_any (w : World) :
    Calls Tryz.prog 227 #[] w fun e w' => e = .returned (.slice (some ⟨w.heap.size, 0, none⟩) 54 54) ∧ w'.heap[w.heap.size]? = some (.cells (widesL.map (Value.int .i32)).toArray 21 (0, 0)) ∧ Below w.heap.size w w' := by
  go_enter Tryz.func227, Tryz.ntmps227
  go_wp2
  go_ret
  exact ⟨rfl, alloc_get _ _, below_alloc (Below.refl _ _) _⟩
end Go.Proofs.YtmelgecjaonbbaaGreatDoor
namespace Go.Proofs.YtmelgecjaonbbaaGreatDoor
open Go.RowKit Go.Bod

set_option maxRecDepth 100000 in
theorem within1_any (L : List Int) (b n : Nat) (k : Nat) (c : Int) (B C : Nat) (w : World) (hk : 2 * k + 1 < n) (hn : n ≤ 1000)
    (hB : w.cell? ⟨B, 0, none⟩ = some (.slice (some ⟨b, 0, none⟩) n n)) (hC : w.cell? ⟨C, 0, none⟩ = some (.int .i32 c))
    (hcell : w.cell? ⟨b, 2 * k + 1, none⟩ = some (.int .i32 (L.getD (2 * k + 1) 0))) :
    Calls Tryz.prog 247 #[.int .i64 k, .pointer (some ⟨B, 0, none⟩), .pointer (some ⟨C, 0, none⟩)] w fun e w' => e = .returned (.bool (decide (c ≤ L.getD (2 * k + 1) 0))) ∧ Below w.heap.size w w' := by
  generalize L.getD (2 * k + 1) 0 = x at *
  go_enter Tryz.func247, Tryz.ntmps247
  go_wp2
  go_quiet (fail)
  go_wp2
  go_ret
  exact ⟨rfl, below_drewN (Below.refl _ _) _⟩

theorem inTab_of_least {L : List Int} {c : Int} {r m : Nat} (hm : L.length / 2 = m) (h : Least m (fun k => decide (c ≤ L.getD (2 * k + 1) 0)) r)
    (hs : ∀ j k, j ≤ k → k < m → L.getD (2 * j) 0 ≤ L.getD (2 * k) 0) : inTab L c = (decide (r < m) && decide (L.getD (2 * r) 0 ≤ c)) := by
  unfold inTab
  rw [Bool.eq_iff_iff, List.any_eq_true, hm]
  simp only [List.mem_range, Bool.and_eq_true, decide_eq_true_eq]
  obtain ⟨h1, h2, h3⟩ := h
  constructor
  · rintro ⟨k, hk, ha, hb⟩
    have hr : r ≤ k := by
      rcases Nat.lt_or_ge k r with hl | hl
      · have := of_decide_eq_false (h2 k hl); omega
      · exact hl
    exact ⟨by omega, Int.le_trans (hs r k hr hk) ha⟩
  · rintro ⟨hr, ha⟩
    exact ⟨r, hr, ha, of_decide_eq_true (h3 r (Nat.le_refl _) hr)⟩

/-- A table as it stands in memory, in order. -/
structure TabAt (L : List Int) (b n : Nat) (w : World) : Prop where
  len : L.length = n
  small : n ≤ 1000
  even : n = 2 * (n / 2)
  blk : w.heap[b]? = some (.cells (L.map (Value.int .i32)).toArray 21 (0, 0))
  rise : ∀ j k, j ≤ k → k < n / 2 → L.getD (2 * j) 0 ≤ L.getD (2 * k) 0
  rise' : ∀ j k, j ≤ k → k < n / 2 → L.getD (2 * j + 1) 0 ≤ L.getD (2 * k + 1) 0
theorem TabAt.via {L : List Int} {b n : Nat} {w w' : World} (h : TabAt L b n w) (hb : Below w.heap.size w w') : TabAt L b n w' := { h with blk := block_via hb h.blk }
theorem TabAt.cell {L : List Int} {b n : Nat} {w : World} (h : TabAt L b n w) (k : Nat) (hk : k < n) : w.cell? ⟨b, k, none⟩ = some (.int .i32 (L.getD k 0)) := by
  rw [cell_of_block h.blk]
  have := h.len
  simp [List.getD_eq_getElem?_getD, List.getElem?_eq_getElem (show k < L.length by omega)]

set_option maxRecDepth 100000 in
theorem within_any (L : List Int) (b n : Nat) (c : Int) (w : World) (hT : TabAt L b n w) :
    Calls Tryz.prog 225 #[.slice (some ⟨b, 0, none⟩) n n, .int .i32 c] w fun e w' => e = .returned (.bool (inTab L c)) ∧ Below w.heap.size w w' := by
  have hn := hT.small
  have hev := Lib.hid hT.even
  have hbl := block_lt hT.blk
  have HT := Lib.hid hT
  clear hT
  have eg : ∀ args w, (callFunc 247 args).run Tryz.prog w = .ok (.enter 247 args) w := enters_of Tryz.func247 (by kernel_rfl) rfl
  have hq : (n : Int) / 2 = ((n / 2 : Nat) : Int) := by omega
  have HQ := Lib.hid hq
  clear hq
  have hS := fun (wr : World) (h1 : wr.cell? ⟨w.heap.size, 0, none⟩ = some (.slice (some ⟨b, 0, none⟩) n n)) (h2 : wr.cell? ⟨w.heap.size + 1, 0, none⟩ = some (.int .i32 c)) (h3 : TabAt L b n wr) =>
    Search_any (n / 2) 247 #[.pointer (some ⟨w.heap.size, 0, none⟩), .pointer (some ⟨w.heap.size + 1, 0, none⟩)] (fun k => decide (c ≤ L.getD (2 * k + 1) 0)) wr eg (by omega)
      (fun i w2 hi hb => within1_any L b n i c _ _ w2 (by have := hev.out; omega) hn (by rw [hb.cell (p := ⟨w.heap.size, 0, none⟩) (World.block_lt_of_cell? _ _ h1)]; exact h1) (by rw [hb.cell (p := ⟨w.heap.size + 1, 0, none⟩) (World.block_lt_of_cell? _ _ h2)]; exact h2)
        (by rw [hb.cell (p := ⟨b, 2 * i + 1, none⟩) (block_lt h3.blk)]; exact h3.cell _ (by have := hev.out; omega)))
      (fun a d h1 h2 h => by have := of_decide_eq_true h; have := h3.rise' a d h1 h2; exact decide_eq_true (by omega))
  have HS := Lib.hid hS
  clear hS eg
  go_enter Tryz.func225, Tryz.ntmps225
  go_wp2_with fail
  rw [HQ.out]
  refine (HS.out _ ?q1 ?q2 ?q3).mono ?_
  case q1 => exact cell_old _ (cell_new _ _ _)
  case q2 => simp
  case q3 => exact HT.out.via (below_alloc (below_alloc (Below.refl _ _) _) _)
  rintro e w' ⟨⟨r, rfl, hr⟩, hb⟩
  have hB : Below w.heap.size w w' := (below_alloc (below_alloc (Below.refl _ _) _) _).trans (hb.mono (by simp; omega))
  have hT := HT.out.via hB
  have hin := inTab_of_least (by rw [hT.len]) hr hT.rise
  have HI := Lib.hid hin
  clear hin
  have HR := Lib.hid hr
  clear hr
  have c1 : w'.cell? ⟨w.heap.size, 0, none⟩ = some (.slice (some ⟨b, 0, none⟩) n n) := cell_via hb (cell_old _ (cell_new _ _ _))
  have c2 : w'.cell? ⟨w.heap.size + 1, 0, none⟩ = some (.int .i32 c) := cell_via hb (by simp)
  by_cases hlt : r < n / 2
  · have hx := hT.cell (2 * r) (by have := hev.out; omega)
    generalize L.getD (2 * r) 0 = x at *
    have hl2 : 2 * r < n := by have := hev.out; omega
    have hi : (r : Int) < (n : Int) / 2 := by omega
    clear hT hb
    go_wp2
    go_quiet (fail)
    go_wp2
    go_ret
    exact ⟨ret_b (by rw [HI.out, decide_eq_true hlt]; rfl), below_drewN hB _⟩
  · have hd : decide ((r : Int) < (n : Int) / 2) = false := decide_eq_false (by omega)
    clear hT hb
    go_wp2
    go_quiet (fail)
    go_wp2
    go_ret
    exact ⟨ret_b (by rw [HI.out, decide_eq_false hlt]; rfl), below_drewN hB _⟩
end Go.Proofs.YtmelgecjaonbbaaGreatDoor
namespace Go.Proofs.YtmelgecjaonbbaaGreatDoor
open Go.RowKit Go.Bod

theorem marks_tab {w : World} {b : Nat} (h : w.heap[b]? = some (.cells (marksL.map (Value.int .i32)).toArray 21 (0, 0))) : TabAt marksL b 52 w :=
  ⟨rfl, by decide, rfl, h, fun j k h1 h2 => (by decide : ∀ k < 26, ∀ j < k + 1, marksL.getD (2 * j) 0 ≤ marksL.getD (2 * k) 0) k (by omega) j (by omega), fun j k h1 h2 => (by decide : ∀ k < 26, ∀ j < k + 1, marksL.getD (2 * j + 1) 0 ≤ marksL.getD (2 * k + 1) 0) k (by omega) j (by omega)⟩
theorem wides_tab {w : World} {b : Nat} (h : w.heap[b]? = some (.cells (widesL.map (Value.int .i32)).toArray 21 (0, 0))) : TabAt widesL b 54 w :=
  ⟨rfl, by decide, rfl, h, fun j k h1 h2 => (by decide : ∀ k < 27, ∀ j < k + 1, widesL.getD (2 * j) 0 ≤ widesL.getD (2 * k) 0) k (by omega) j (by omega), fun j k h1 h2 => (by decide : ∀ k < 27, ∀ j < k + 1, widesL.getD (2 * j + 1) 0 ≤ widesL.getD (2 * k + 1) 0) k (by omega) j (by omega)⟩

set_option maxRecDepth 100000 in
theorem Class_any (c : Int) (w : World) :
    Calls Tryz.prog 198 #[.int .i32 c] w fun e w' => e = .returned (.int .i64 (cls c)) ∧ Below w.heap.size w w' := by
  by_cases h1 : c < 0 ∨ 1114111 < c ∨ (55296 ≤ c ∧ c ≤ 57343)
  · have he : cls c = 5 := by unfold cls; rw [if_pos h1]
    have HE := Lib.hid he
    clear he
    go_enter Tryz.func198, Tryz.ntmps198
    go_wp2
    all_goals
      go_ret
      exact ⟨ret_i HE.out.symm, Below.refl _ _⟩
  by_cases h2 : c = 10
  · subst h2
    go_enter Tryz.func198, Tryz.ntmps198
    go_wp2
    go_ret
    exact ⟨ret_i (by decide), Below.refl _ _⟩
  by_cases h3 : c < 32 ∨ (127 ≤ c ∧ c ≤ 159)
  · have he : cls c = 2 := by unfold cls; rw [if_neg h1, if_neg h2, if_pos h3]
    have HE := Lib.hid he
    have t2 : (c == 10) = false := by rw [beq_eq_false_iff_ne]; exact h2
    clear he
    go_enter Tryz.func198, Tryz.ntmps198
    go_wp2
    all_goals
      go_ret
      exact ⟨ret_i HE.out.symm, Below.refl _ _⟩
  have t2 : (c == 10) = false := by rw [beq_eq_false_iff_ne]; exact h2
  have b1 : ¬ c < 0 := by omega
  have b2 : ¬ c < 32 := by omega
  have b3 : c ≤ 1114111 := by omega
  by_cases m1 : inTab marksL c = true
  · have he : cls c = 3 := by unfold cls; rw [if_neg h1, if_neg h2, if_neg h3, if_pos m1]
    have HE := Lib.hid he
    have M1 := Lib.hid m1
    clear he m1
    go_enter Tryz.func198, Tryz.ntmps198
    go_wp2_with (first
      | (go_at_call 226; refine (marks_any _).mono ?_; rintro e w' ⟨rfl, hm, hb⟩)
      | (go_at_call 225; refine (within_any marksL _ 52 c _ (marks_tab hm)).mono ?_; rintro e w2 ⟨rfl, hb2⟩; rw [M1.out]))
    all_goals
      go_ret
      exact ⟨ret_i HE.out.symm, below_from hb hb2⟩
  have m1' : inTab marksL c = false := by simpa using m1
  cases m2 : inTab widesL c
  all_goals
    have M1 := Lib.hid m1'
    have M2 := Lib.hid m2
    clear m2
  · have he : cls c = 0 := by unfold cls; rw [if_neg h1, if_neg h2, if_neg h3, if_neg m1, if_neg (by rw [M2.out]; decide)]
    have HE := Lib.hid he
    clear he m1 m1'
    go_enter Tryz.func198, Tryz.ntmps198
    go_wp2_with fail
    all_goals
      refine (marks_any _).mono ?_
      rintro e w' ⟨rfl, hm, hb⟩
      go_wp2_with fail
      refine (within_any marksL _ 52 c _ (marks_tab hm)).mono ?_
      rintro e w2 ⟨rfl, hb2⟩
      rw [M1.out]
      go_wp2_with fail
      refine (wides_any _).mono ?_
      rintro e w3 ⟨rfl, hm3, hb3⟩
      go_wp2_with fail
      refine (within_any widesL _ 54 c _ (wides_tab hm3)).mono ?_
      rintro e w4 ⟨rfl, hb4⟩
      rw [M2.out]
      go_wp2
      go_ret
      exact ⟨ret_i HE.out.symm, below_from (below_from (below_from hb hb2) hb3) hb4⟩
  · have he : cls c = 4 := by unfold cls; rw [if_neg h1, if_neg h2, if_neg h3, if_neg m1, if_pos M2.out]
    have HE := Lib.hid he
    clear he m1 m1'
    go_enter Tryz.func198, Tryz.ntmps198
    go_wp2_with fail
    all_goals
      refine (marks_any _).mono ?_
      rintro e w' ⟨rfl, hm, hb⟩
      go_wp2_with fail
      refine (within_any marksL _ 52 c _ (marks_tab hm)).mono ?_
      rintro e w2 ⟨rfl, hb2⟩
      rw [M1.out]
      go_wp2_with fail
      refine (wides_any _).mono ?_
      rintro e w3 ⟨rfl, hm3, hb3⟩
      go_wp2_with fail
      refine (within_any widesL _ 54 c _ (wides_tab hm3)).mono ?_
      rintro e w4 ⟨rfl, hb4⟩
      rw [M2.out]
      go_wp2
      go_ret
      exact ⟨ret_i HE.out.symm, below_from (below_from (below_from hb hb2) hb3) hb4⟩

theorem Cells_any (c : Int) (w : World) :
    Calls Tryz.prog 199 #[.int .i32 c] w fun e w' => e = .returned (.int .i64 (wcl c)) ∧ Below w.heap.size w w' := by
  have hw : wcl c = if cls c = 1 then 0 else if cls c = 4 then 2 else if cls c = 2 ∧ c ≤ 127 then 2 else 1 := rfl
  have hc := Class_any c w
  generalize cls c = k at *
  generalize wcl c = r at *
  have HW := Lib.hid hw
  clear hw
  by_cases h1 : k = 1
  · subst h1
    go_enter Tryz.func199, Tryz.ntmps199
    go_wp2_with (go_at_call 198; refine hc.mono ?_; rintro e w' ⟨rfl, hb⟩)
    go_ret
    exact ⟨ret_i (by rw [HW.out]; rfl), hb⟩
  by_cases h4 : k = 4
  · subst h4
    go_enter Tryz.func199, Tryz.ntmps199
    go_wp2_with (go_at_call 198; refine hc.mono ?_; rintro e w' ⟨rfl, hb⟩)
    go_ret
    exact ⟨ret_i (by rw [HW.out]; rfl), hb⟩
  have t1 : (k == 1) = false := by rw [beq_eq_false_iff_ne]; exact h1
  have t4 : (k == 4) = false := by rw [beq_eq_false_iff_ne]; exact h4
  by_cases h2 : k = 2
  · subst h2
    by_cases h3 : c ≤ 127
    · go_enter Tryz.func199, Tryz.ntmps199
      go_wp2_with (go_at_call 198; refine hc.mono ?_; rintro e w' ⟨rfl, hb⟩)
      go_ret
      exact ⟨ret_i (by rw [HW.out, if_neg h1, if_neg h4]; rw [if_pos ⟨by trivial, h3⟩]), hb⟩
    · go_enter Tryz.func199, Tryz.ntmps199
      go_wp2_with (go_at_call 198; refine hc.mono ?_; rintro e w' ⟨rfl, hb⟩)
      go_ret
      exact ⟨ret_i (by rw [HW.out, if_neg h1, if_neg h4, if_neg (fun h => by omega)]), hb⟩
  · have t2 : (k == 2) = false := by rw [beq_eq_false_iff_ne]; exact h2
    go_enter Tryz.func199, Tryz.ntmps199
    go_wp2_with (go_at_call 198; refine hc.mono ?_; rintro e w' ⟨rfl, hb⟩)
    go_ret
    exact ⟨ret_i (by rw [HW.out, if_neg h1, if_neg h4, if_neg (fun h => h2 h.1)]), hb⟩
end Go.Proofs.YtmelgecjaonbbaaGreatDoor
namespace Go.Proofs.YtmelgecjaonbbaaGreatDoor
open Go.RowKit Go.Bod

set_option maxRecDepth 100000 in
theorem glued_any (u v : Int) (w : World) :
    Calls Tryz.prog 147 #[.int .i32 u, .int .i32 v] w fun e w' => e = .returned (.bool (jn u v)) ∧ Below w.heap.size w w' := by
  have hU := fun w => Class_any u w
  have hV := fun w => Class_any v w
  have hj : jn u v = ((decide (u = 13) && decide (v = 10)) || (decide (cls v = 3) && !decide (cls u = 1) && !decide (cls u = 2))) := rfl
  generalize cls u = k at *
  generalize cls v = l at *
  generalize jn u v = r at *
  have HU := Lib.hid hU
  have HV := Lib.hid hV
  have HJ := Lib.hid hj
  clear hU hV hj
  by_cases h1 : u = 13 ∧ v = 10
  · obtain ⟨rfl, rfl⟩ := h1
    go_enter Tryz.func147, Tryz.ntmps147
    go_wp2
    go_ret
    exact ⟨ret_b (by rw [HJ.out]; rfl), Below.refl _ _⟩
  · have e1 : (decide (u = 13) && decide (v = 10)) = false := by
      rw [Bool.and_eq_false_iff]
      by_cases hu : u = 13
      · exact .inr (decide_eq_false fun hv => h1 ⟨hu, hv⟩)
      · exact .inl (decide_eq_false hu)
    have hr : r = (decide (l = 3) && !decide (k = 1) && !decide (k = 2)) := by rw [HJ.out, e1, Bool.false_or]
    have HR := Lib.hid hr
    clear HJ e1 hr
    have walk : ∀ (d : Bool), (l == 3) = d → ∀ (d1 : Bool), (k == 1) = d1 → ∀ d2 : Bool, (k == 2) = d2 → Calls Tryz.prog 147 #[.int .i32 u, .int .i32 v] w fun e w' => e = .returned (.bool (d && !d1 && !d2)) ∧ Below w.heap.size w w' := by
      intro d hd d1 hd1 d2 hd2
      have n1 : (k != 1) = !d1 := by rw [bne, hd1]
      have n2 : (k != 2) = !d2 := by rw [bne, hd2]
      have hn : ¬ (u = 13 ∧ v = 10) := h1
      by_cases hu : u = 13
      · have hv : (v == 10) = false := by rw [beq_eq_false_iff_ne]; exact fun h => h1 ⟨hu, h⟩
        subst hu
        clear h1 hn
        cases d <;> cases d1 <;> cases d2
        all_goals
          go_enter Tryz.func147, Tryz.ntmps147
          go_wp2_with fail
          refine (HU.out _).mono ?_
          rintro e w1 ⟨rfl, hb⟩
          go_wp2_with fail
          refine (HV.out _).mono ?_
          rintro e w2 ⟨rfl, hb2⟩
          go_wp2
          go_ret
          exact ⟨rfl, below_from hb hb2⟩
      · have hv : (u == 13) = false := by rw [beq_eq_false_iff_ne]; exact hu
        clear h1 hn hu
        cases d <;> cases d1 <;> cases d2
        all_goals
          go_enter Tryz.func147, Tryz.ntmps147
          go_wp2_with fail
          refine (HU.out _).mono ?_
          rintro e w1 ⟨rfl, hb⟩
          go_wp2_with fail
          refine (HV.out _).mono ?_
          rintro e w2 ⟨rfl, hb2⟩
          go_wp2
          go_ret
          exact ⟨rfl, below_from hb hb2⟩
    refine (walk _ rfl _ rfl _ rfl).mono ?_
    rintro e w' ⟨rfl, hb⟩
    exact ⟨ret_b (by rw [HR.out]; rfl), hb⟩
end Go.Proofs.YtmelgecjaonbbaaGreatDoor
namespace Go.Proofs.YtmelgecjaonbbaaGreatDoor
open Go.RowKit Go.Bod

set_option maxRecDepth 100000 in
theorem cBoundary_any (s : ByteArray) (i : Int) (w : World) (h0 : 0 ≤ i) (hi : i ≤ 4611686018427387904) (hs : s.size ≤ 4611686018427387904) (hT : Tabs w) :
    Calls Tryz.prog 67 #[.string s, .int .i64 i] w fun e w' => e = .returned (.bool (cb s i.toNat)) ∧ Below w.heap.size w w' := by
  obtain ⟨i, rfl⟩ := Int.eq_ofNat_of_zero_le h0
  rw [Int.toNat_natCast]
  by_cases hz : i = 0
  · subst hz
    have hr := Lib.hid (cb_zero s)
    go_enter Tryz.func67, Tryz.ntmps67
    go_wp2
    go_ret
    exact ⟨ret_b (by rw [hr.out]), Below.refl _ _⟩
  by_cases hl : s.size ≤ i
  · have hr : cb s i = decide (i = s.size) := by
      by_cases he : i = s.size
      · rw [he, cb_size]; simp
      · rw [cb_big (by omega), decide_eq_false he]
    have HR := Lib.hid hr
    have hz' : 0 < i := by omega
    have ez : ((i : Int) == 0) = false := by rw [beq_eq_false_iff_ne]; omega
    clear hr hz
    go_enter Tryz.func67, Tryz.ntmps67
    go_wp2
    all_goals
      go_ret
      refine ⟨ret_b ?_, Below.refl _ _⟩
      rw [HR.out, Bool.eq_iff_iff, beq_iff_eq, decide_eq_true_eq]; omega
  have hz' : 0 < i := by omega
  have hl' : i < s.size := by omega
  have hm := Lib.hid (cb_mid hz' hl')
  have hdn := dnw_le s (i - 1)
  have hub := Lib.hid (dnw_ub s (i - 1))
  by_cases hu : ub s i
  · have hcB : ∀ w, Tabs w → Calls Tryz.prog 144 #[.string s, .int .i64 i] w fun e w' => e = .returned (.bool true) ∧ Below w.heap.size w w' := fun w hT => by
      have := Boundary_any s i w h0 (by omega) hs hT
      rwa [Int.toNat_natCast, decide_eq_true hu] at this
    have hcP : ∀ w, Tabs w → Calls Tryz.prog 146 #[.string s, .int .i64 i] w fun e w' => e = .returned (.int .i64 (dnw s (i - 1))) ∧ Below w.heap.size w w' := fun w hT => by
      have := Prev_any s i w (by omega) (by omega) hs hT
      rwa [show (min ((i : Int) - 1) s.size).toNat = i - 1 from by omega] at this
    have HB := Lib.hid hcB
    have HP := Lib.hid hcP
    have HU := Lib.hid hu
    clear hcB hcP hu hz hl
    have hrr : cb s i = !jn (uch s (dnw s (i - 1))) (uch s i) := by rw [hm.out, decide_eq_true HU.out, Bool.true_and]; rfl
    have HRR := Lib.hid hrr
    clear hrr
    generalize hd : dnw s (i - 1) = d at *
    have HD := Lib.hid hd
    clear hd
    go_enter Tryz.func67, Tryz.ntmps67
    go_wp2_with fail
    refine (HB.out _ hT).mono ?_
    rintro e w1 ⟨rfl, hb1⟩
    go_wp2_with fail
    refine (HP.out _ (hT.of hb1)).mono ?_
    rintro e w2 ⟨rfl, hb2⟩
    have hb2 := below_from hb1 hb2
    go_wp2_with fail
    refine (At_any s d _ (by omega) (by omega) hs (by rw [Int.toNat_natCast]; exact hub.out) (hT.of hb2)).mono ?_
    rintro e w3 ⟨rfl, hb3⟩
    rw [Int.toNat_natCast]
    have hb3 := below_from hb2 hb3
    go_wp2_with fail
    refine (At_any s i _ (by omega) (by omega) hs (by rw [Int.toNat_natCast]; exact HU.out) (hT.of (below_alloc hb3 _))).mono ?_
    rintro e w4 ⟨rfl, hb4⟩
    rw [Int.toNat_natCast]
    have hz : w3.heap.size < w4.heap.size := by have := hb4.size; simp at this; omega
    have c1 : w4.cell? ⟨w3.heap.size, 0, none⟩ = some (.int .i32 (uch s d)) := cell_via hb4 (by simp)
    have hB4 := below_from (below_alloc hb3 _) hb4
    go_wp2_with fail
    refine (glued_any _ _ _).mono ?_
    rintro e w5 ⟨rfl, hb5⟩
    go_wp2
    go_ret
    exact ⟨ret_b (by rw [HRR.out]), below_from (below_alloc hB4 _) hb5⟩
  · have hr : cb s i = false := by rw [hm.out, decide_eq_false hu]; rfl
    have hcB : ∀ w, Tabs w → Calls Tryz.prog 144 #[.string s, .int .i64 i] w fun e w' => e = .returned (.bool false) ∧ Below w.heap.size w w' := fun w hT => by
      have := Boundary_any s i w h0 (by omega) hs hT
      rwa [Int.toNat_natCast, decide_eq_false hu] at this
    have HB := Lib.hid hcB
    have HR := Lib.hid hr
    clear hcB hr hu hz hl
    go_enter Tryz.func67, Tryz.ntmps67
    go_wp2_with fail
    refine (HB.out _ hT).mono ?_
    rintro e w1 ⟨rfl, hb1⟩
    go_wp2
    go_ret
    exact ⟨ret_b (by rw [HR.out]), hb1⟩
end Go.Proofs.YtmelgecjaonbbaaGreatDoor
namespace Go.Proofs.YtmelgecjaonbbaaGreatDoor
open Go.RowKit Go.Bod

theorem cb_false_of_not_ub {s : ByteArray} {t : Nat} (h : ¬ ub s t) : cb s t = false := by
  cases hc : cb s t with
  | false => rfl
  | true => exact absurd (cb_ub hc) h
/-- Between two rounds of Next. -/
def NextRel (s : ByteArray) (i : Nat) (w : World) (v : Value) (wr : World) : Prop :=
  ∃ j : Nat, v = .int .i64 j ∧ i ≤ j ∧ (j ≤ s.size ∨ j = i) ∧ (∀ t, i < t → t ≤ j → cb s t = false) ∧ Below w.heap.size w wr

set_option maxRecDepth 100000 in
theorem cNext_any (s : ByteArray) (i : Int) (w : World) (h0 : 0 ≤ i) (hi : i ≤ 4611686018427387904) (hs : s.size ≤ 4611686018427387904) (hT : Tabs w) :
    Calls Tryz.prog 19 #[.string s, .int .i64 i] w fun e w' => e = .returned (.int .i64 (cnext s i.toNat)) ∧ Below w.heap.size w w' := by
  obtain ⟨i, rfl⟩ := Int.eq_ofNat_of_zero_le h0
  rw [Int.toNat_natCast]
  go_enter Tryz.func19, Tryz.ntmps19
  go_wp2
  go_loopw [1] (NextRel s i w) (fun v _ => s.size - (RowKit.intOf v).toNat)
  case atStart => exact ⟨i, rfl, Nat.le_refl _, .inr rfl, fun t a b => by omega, Below.refl _ _⟩
  case round =>
    obtain ⟨j, rfl, h1, h2, h3, hB⟩ := hrel
    have H3 := Lib.hid h3
    clear h3
    by_cases hlt : j < s.size
    · have hT2 := hT.below hB hT.lt.2
      have hn1 := lt_upw hlt
      have hn2 := upw_le (Nat.le_of_lt hlt)
      have hn3 := Lib.hid (upw_ub hlt)
      have hn4 := Lib.hid (fun k h1 h2 => @upw_least s j k h1 h2 hlt)
      have hcN : Calls Tryz.prog 66 #[.string s, .int .i64 j] wr fun e w' => e = .returned (.int .i64 (upw s j)) ∧ Below wr.heap.size wr w' := by
        have := Next_any s j wr (by omega) hs hT2
        rwa [show (min (j : Int) s.size).toNat = j from by omega] at this
      generalize upw s j = u at *
      have hcB := fun (wx : World) (hT : Tabs wx) => cBoundary_any s u wx (by omega) (by omega) hs hT
      simp only [Int.toNat_natCast] at hcB
      have HB := Lib.hid hcB
      clear hcB
      go_wp2_with fail
      refine hcN.mono ?_
      rintro e w1 ⟨rfl, hb1⟩
      clear hcN
      have hB1 := below_from hB hb1
      cases hc : cb s u
      · have HC := Lib.hid hc
        clear hc
        go_wp2_with fail
        refine (HB.out _ (hT.of hB1)).mono ?_
        rintro e w2 ⟨rfl, hb2⟩
        rw [HC.out]
        go_wp2
        go_roundw
        case rel =>
          refine ⟨u, rfl, by omega, .inl hn2, fun t a b => ?_, below_from hB1 hb2⟩
          by_cases ht : t ≤ j
          · exact H3.out t a ht
          · by_cases hu : t = u
            · rw [hu]; exact HC.out
            · exact cb_false_of_not_ub (hn4.out t (by omega) (by omega))
        case measure => simp [RowKit.intOf]; omega
      · have hr : cnext s i = u := cnext_eq (by omega) hc fun t a b => by
          by_cases ht : t ≤ j
          · exact H3.out t a ht
          · exact cb_false_of_not_ub (hn4.out t (by omega) b)
        have HC := Lib.hid hc
        have HR := Lib.hid hr
        clear hc hr
        go_wp2_with fail
        refine (HB.out _ (hT.of hB1)).mono ?_
        rintro e w2 ⟨rfl, hb2⟩
        rw [HC.out]
        go_wp2
        go_ret
        exact ⟨ret_i (by rw [HR.out]), below_from hB1 hb2⟩
    · have hr : cnext s i = s.size := by
        refine cnext_end ?_
        rcases Nat.lt_or_ge i s.size with hl | hl
        · have := H3.out s.size hl (by omega)
          rw [cb_size] at this; cases this
        · exact hl
      have HR := Lib.hid hr
      clear hr
      go_wp2
      go_ret
      exact ⟨ret_i (by rw [HR.out]), hB⟩

/-- Between two rounds of Prev. -/
def PrevRel (s : ByteArray) (i : Nat) (w : World) (v : Value) (wr : World) : Prop :=
  ∃ j : Nat, v = .int .i64 j ∧ j ≤ i ∧ (∀ t, j ≤ t → t < i → cb s t = false) ∧ Below w.heap.size w wr

set_option maxRecDepth 100000 in
theorem cPrev_any (s : ByteArray) (i : Int) (w : World) (h0 : 0 ≤ i) (hi : i ≤ s.size) (hs : s.size ≤ 4611686018427387904) (hT : Tabs w) :
    Calls Tryz.prog 280 #[.string s, .int .i64 i] w fun e w' => e = .returned (.int .i64 (cprev s i.toNat)) ∧ Below w.heap.size w w' := by
  obtain ⟨i, rfl⟩ := Int.eq_ofNat_of_zero_le h0
  rw [Int.toNat_natCast]
  have hd0 : decide (s.size < i) = false := decide_eq_false (by omega)
  go_enter Tryz.func280, Tryz.ntmps280
  go_wp2
  go_loopw [1] (PrevRel s i w) (fun v _ => (RowKit.intOf v).toNat)
  case atStart => exact ⟨i, rfl, Nat.le_refl _, fun t a b => by omega, Below.refl _ _⟩
  case round =>
    obtain ⟨j, rfl, h1, h3, hB⟩ := hrel
    have H3 := Lib.hid h3
    clear h3
    by_cases hlt : 0 < j
    · have hT2 := hT.below hB hT.lt.2
      have hn1 := dnw_le s (j - 1)
      have hn3 := Lib.hid (dnw_ub s (j - 1))
      have hn4 := Lib.hid (fun k h1 h2 => @dnw_greatest s (j - 1) k h1 h2)
      have hcN : Calls Tryz.prog 146 #[.string s, .int .i64 j] wr fun e w' => e = .returned (.int .i64 (dnw s (j - 1))) ∧ Below wr.heap.size wr w' := by
        have := Prev_any s j wr (by omega) (by omega) hs hT2
        rwa [show (min ((j : Int) - 1) s.size).toNat = j - 1 from by omega] at this
      generalize dnw s (j - 1) = u at *
      have hcB := fun (wx : World) (hT : Tabs wx) => cBoundary_any s u wx (by omega) (by omega) hs hT
      simp only [Int.toNat_natCast] at hcB
      have HB := Lib.hid hcB
      clear hcB
      go_wp2_with fail
      refine hcN.mono ?_
      rintro e w1 ⟨rfl, hb1⟩
      clear hcN
      have hB1 := below_from hB hb1
      cases hc : cb s u
      · have HC := Lib.hid hc
        clear hc
        go_wp2_with fail
        refine (HB.out _ (hT.of hB1)).mono ?_
        rintro e w2 ⟨rfl, hb2⟩
        rw [HC.out]
        go_wp2
        go_roundw
        case rel =>
          refine ⟨u, rfl, by omega, fun t a b => ?_, below_from hB1 hb2⟩
          by_cases ht : j ≤ t
          · exact H3.out t ht b
          · by_cases hu : t = u
            · rw [hu]; exact HC.out
            · exact cb_false_of_not_ub (hn4.out t (by omega) (by omega))
        case measure => simp [RowKit.intOf]; omega
      · have hr : cprev s i = u := prevP_eq (by omega) (.inl hc) fun t a b => by
          by_cases ht : j ≤ t
          · exact H3.out t ht b
          · exact cb_false_of_not_ub (hn4.out t a (by omega))
        have HC := Lib.hid hc
        have HR := Lib.hid hr
        clear hc hr
        go_wp2_with fail
        refine (HB.out _ (hT.of hB1)).mono ?_
        rintro e w2 ⟨rfl, hb2⟩
        rw [HC.out]
        go_wp2
        go_ret
        exact ⟨ret_i (by rw [HR.out]), below_from hB1 hb2⟩
    · have hr : cprev s i = 0 := by
        obtain rfl : j = 0 := by omega
        by_cases hi0 : i = 0
        · subst hi0; rfl
        · exact prevP_eq (by omega) (.inr rfl) fun t a b => H3.out t (by omega) b
      have HR := Lib.hid hr
      clear hr
      go_wp2
      go_ret
      exact ⟨ret_i (by rw [HR.out]; rfl), hB⟩

theorem cSnap_any (s : ByteArray) (i : Int) (w : World) (h0 : 0 ≤ i) (hi : i ≤ 4611686018427387904) (hs : s.size ≤ 4611686018427387904) (hT : Tabs w) :
    Calls Tryz.prog 154 #[.string s, .int .i64 i] w fun e w' => e = .returned (.int .i64 (csnap s i.toNat)) ∧ Below w.heap.size w w' := by
  obtain ⟨i, rfl⟩ := Int.eq_ofNat_of_zero_le h0
  have hB := fun w hT => cBoundary_any s i w h0 hi hs hT
  have hN := fun w hT => cNext_any s i w h0 hi hs hT
  rw [Int.toNat_natCast] at *
  have hd : csnap s i = if cb s i = true then i else cnext s i := rfl
  generalize csnap s i = r at *
  cases hc : cb s i <;> rw [hc] at hB hd
  all_goals
    have HB := Lib.hid hB
    have HN := Lib.hid hN
    have HD := Lib.hid hd
    clear hB hN hd hc
  · go_enter Tryz.func154, Tryz.ntmps154
    go_wp2_with fail
    refine (HB.out _ hT).mono ?_
    rintro e w1 ⟨rfl, hb1⟩
    go_wp2_with fail
    refine (HN.out _ (hT.of hb1)).mono ?_
    rintro e w2 ⟨rfl, hb2⟩
    go_wp2
    go_ret
    exact ⟨ret_i (by rw [HD.out]; rfl), below_from hb1 hb2⟩
  · go_enter Tryz.func154, Tryz.ntmps154
    go_wp2_with fail
    refine (HB.out _ hT).mono ?_
    rintro e w1 ⟨rfl, hb1⟩
    go_wp2
    go_ret
    exact ⟨ret_i (by rw [HD.out]; rfl), hb1⟩
end Go.Proofs.YtmelgecjaonbbaaGreatDoor
