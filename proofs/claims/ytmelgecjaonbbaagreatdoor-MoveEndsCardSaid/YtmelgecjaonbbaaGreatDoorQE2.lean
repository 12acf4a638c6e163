/- A region that draws its order, by what each operation leaves: one step an operation, whatever the order; Small plain laws: a text that begins with a line feed; The walks of layer 3 (cluster), further: the cluster at a place; The plain law of clusters: their list; The walks of layer 3 (cluster), further: the clusters one behind the other; The walks of layer 3 (cluster), further: Count; The plain law of summaries; The walks of layer 3 (cluster), further: Cells; The walks of layer 4 (metric): a text's summary; Laws on a row of bytes: made, copied into from a string, read as a string; What a call that writes leaves of the world: all blocks but a few; Plain laws on joined pieces of byte rows; The walks of layer 6 (gap): the array with a gap is laid; Plain laws on the array with a gap. -/
import Derived.Test.YtmelgecjaonbbaaGreatDoorQE1
import Derived.Orders
import Derived.OrdersHeld
import Derived.Below
import Derived.Tactics
import Derived.Lib.Strings
import Derived.RangeFuncNested
import Derived.RangeFuncBound
import Derived.RangeFuncCalls
import Derived.RangeFuncLeaves
import Derived.Shelf.Abstract
import Derived.Shelf.RegionOpen
import Derived.OwnWalkIn
import Derived.TacticsInMore
import Derived.LoopNIn
import Derived.LoopIn
import Derived.Lib.RuneCount
import Derived.Lib.CountLaws
import Derived.Laws.MakeOwn
import Derived.Laws.CopyRow
import Derived.Laws.BytesArg
set_option linter.unusedSimpArgs false
set_option linter.unusedVariables false
namespace Go.Bod
open Go.RowKit
variable {P : Program}

/-- The operations on which an operation waits, in whatever mode. -/
def waitsOn (o : Oper) : List Nat := (o.after.toList.filter (fun e => Region.binds .any e)).map (·.on)
/-- The temporaries that the first m operations write. -/
def dstsOf (l : List Oper) : List (Option Tmp) := l.map (·.dst)
/-- What is asked of a region's form: the first m operations write a temporary each, no two the same; each waits on earlier ones alone; what stands behind them is at most one operation, which waits on all of them. -/
def flowOk (l : List Oper) (m : Nat) : Bool :=
  (l.zipIdx.all fun (o, i) => (waitsOn o).all (· < i)) &&
  (decide (m = l.length) || (decide (m + 1 = l.length) && ((l[m]?).map fun o => (List.range m).all (waitsOn o).contains).getD false)) &&
  ((List.range m).all fun i => ((l[i]?).bind (·.dst)).isSome) &&
  ((List.range m).all fun i => (List.range m).all fun j => i == j || (l[i]?).bind (·.dst) != (l[j]?).bind (·.dst))

/-- No operation of the first m writes this temporary. -/
def freeOf (l : List Oper) (m t : Nat) : Prop := ∀ j o, j < m → l[j]? = some o → o.dst ≠ some t

structure FlowInv (l : List Oper) (m : Nat) (a0 : Act) (w0 : World) (G : Nat → Value → World → Prop) (L : Array Bool) (a : Act) (w : World) : Prop where
  defers : a.defers = a0.defers
  size : a.tmps.size = a0.tmps.size
  same : ∀ t, freeOf l m t → a.tmps.getD t undef = a0.tmps.getD t undef
  world : Below w0.heap.size w0 w
  has : ∀ j o d, j < m → L.getD j true = true → l[j]? = some o → o.dst = some d → G j (a.tmps.getD d undef) w
  unl : ∀ j, m ≤ j → j < l.length → L.getD j true = false
  len : L.size = l.length

theorem put_getD_ne (a : Act) (d t : Nat) (v : Value) (h : d ≠ t) : (a.put (some d) v).tmps.getD t undef = a.tmps.getD t undef := by
  simp [Act.put, Array.getD_eq_getD_getElem?, Array.getElem?_setIfInBounds_ne h]
theorem put_getD_same (a : Act) (d : Nat) (v : Value) (h : d < a.tmps.size) : (a.put (some d) v).tmps.getD d undef = v := by
  simp [Act.put, Array.getD_eq_getD_getElem?, Array.getElem?_setIfInBounds, h]

theorem ready_iff {md : Region.Mode} {l : List Oper} {L : Array Bool} (i : Nat) : i ∈ Region.ready md l.toArray L ↔ i < l.length ∧ L.getD i true = false ∧ ∃ o, l[i]? = some o ∧ ∀ e ∈ o.after.toList, Region.binds md e = true → L.getD e.on false = true := by
  unfold Region.ready
  simp only [List.mem_filter, List.mem_range, List.size_toArray, Bool.and_eq_true, Bool.not_eq_true', List.getElem?_toArray]
  constructor
  · rintro ⟨h1, h2, h3⟩
    refine ⟨h1, h2, ?_⟩
    rw [List.getElem?_eq_getElem h1] at h3 ⊢
    refine ⟨_, rfl, fun e he hb => ?_⟩
    simp only [Option.map_some, Option.getD_some] at h3
    rw [Array.all_eq_true'] at h3
    have := h3 e (Array.mem_toList_iff.1 he)
    simpa [hb] using this
  · rintro ⟨h1, h2, o, ho, h3⟩
    refine ⟨h1, h2, ?_⟩
    rw [ho]
    simp only [Option.map_some, Option.getD_some]
    rw [Array.all_eq_true']
    intro e he
    cases hb : Region.binds md e with
    | false => rfl
    | true => simpa [hb] using h3 e (Array.mem_toList_iff.2 he) hb
theorem getD_set {L : Array Bool} {i : Nat} (j : Nat) (hi : i < L.size) (b : Bool) : (L.setIfInBounds i true).getD j b = if j = i then true else L.getD j b := by
  by_cases h : j = i
  · subst h; simp [Array.getD_eq_getD_getElem?, Array.getElem?_setIfInBounds, hi]
  · rw [if_neg h]; simp [Array.getD_eq_getD_getElem?, Array.getElem?_setIfInBounds_ne (Ne.symm h)]
theorem getD_lt {L : Array Bool} {j : Nat} (h : j < L.size) (b c : Bool) : L.getD j b = L.getD j c := by simp [Array.getD, h]

theorem flow_any {l : List Oper} {m : Nat} {a0 : Act} {w0 : World} {G : Nat → Value → World → Prop} {Q : Exit → Act → World → Prop} (hok : flowOk l m = true)
    (hdst : ∀ i o d, i < m → l[i]? = some o → o.dst = some d → d < a0.tmps.size)
    (hG : ∀ i v w w', Below w.heap.size w w' → G i v w → G i v w')
    (hstep : ∀ i o a w, i < m → l[i]? = some o → Below w0.heap.size w0 w → a.defers = a0.defers → a.tmps.size = a0.tmps.size → (∀ t, freeOf l m t → a.tmps.getD t undef = a0.tmps.getD t undef) →
      (∀ j oj d, j ∈ waitsOn o → l[j]? = some oj → oj.dst = some d → G j (a.tmps.getD d undef) w) →
      wpOp P l.toArray Q i (fun a' w' => ∃ v, a' = a.put o.dst v ∧ Below w.heap.size w w' ∧ G i v w') a w)
    (hlast : ∀ a w, Below w0.heap.size w0 w → a.defers = a0.defers → a.tmps.size = a0.tmps.size → (∀ t, freeOf l m t → a.tmps.getD t undef = a0.tmps.getD t undef) →
      (∀ j o d, j < m → l[j]? = some o → o.dst = some d → G j (a.tmps.getD d undef) w) → wpOps P l.toArray Q (List.range' m (l.length - m)) a w) :
    ∀ fuel L a w, (List.range l.length).countP (fun i => !L.getD i true) ≤ fuel → FlowInv l m a0 w0 G L a w → wpAny P .any l.toArray Q fuel L a w := by
  simp only [flowOk, Bool.and_eq_true, Bool.or_eq_true, decide_eq_true_eq, List.all_eq_true, List.mem_range, Prod.forall] at hok
  obtain ⟨⟨⟨h1, h2⟩, h3⟩, h4⟩ := hok
  have back : ∀ i o, l[i]? = some o → ∀ j ∈ waitsOn o, j < i := by
    intro i o ho j hj
    have hm : (o, i) ∈ l.zipIdx := by rw [List.mem_zipIdx_iff_getElem?]; exact ho
    exact h1 o i hm j hj
  have waits : ∀ {o : Oper} {e : Edge}, e ∈ o.after.toList → Region.binds .any e = true → e.on ∈ waitsOn o := fun he hb =>
    List.mem_map.2 ⟨_, List.mem_filter.2 ⟨he, hb⟩, rfl⟩
  -- some operation may come up, while one is left
  have some_ready : ∀ L : Array Bool, L.size = l.length → Region.ready .any l.toArray L = [] → ∀ i, i < l.length → L.getD i true = true := by
    intro L hL hr i
    induction i using Nat.strongRecOn with
    | _ i ih =>
      intro hi
      cases hl : L.getD i true with
      | true => rfl
      | false =>
        exfalso
        have hmem : i ∈ Region.ready .any l.toArray L := (ready_iff i).2 ⟨hi, hl, _, List.getElem?_eq_getElem hi, fun e he hb => by
          have hlt := back i _ (List.getElem?_eq_getElem hi) _ (waits he hb)
          rw [getD_lt (by omega) false true]
          exact ih _ hlt (by omega)⟩
        rw [hr] at hmem; cases hmem
  have none_ready : ∀ L : Array Bool, (∀ i, i < l.length → L.getD i true = true) → Region.ready .any l.toArray L = [] := by
    intro L hL
    cases hr : Region.ready .any l.toArray L with
    | nil => rfl
    | cons x xs =>
      exfalso
      have : x ∈ Region.ready .any l.toArray L := by rw [hr]; simp
      obtain ⟨hx, hf, _⟩ := (ready_iff x).1 this
      rw [hL x hx] at hf; cases hf
  have done : ∀ L a w, Region.ready .any l.toArray L = [] → FlowInv l m a0 w0 G L a w → Q .normal a w := by
    intro L a w hr I
    have hall := some_ready L I.len hr
    have hm : m = l.length := by
      rcases h2 with h2 | h2
      · exact h2
      · have := hall m (by omega)
        rw [I.unl m (Nat.le_refl _) (by omega)] at this; cases this
    have := hlast a w I.world I.defers I.size I.same (fun j o d hj ho hd => I.has j o d hj (hall j (by omega)) ho hd)
    rw [hm, Nat.sub_self] at this
    simpa [wpOps] using this
  intro fuel
  induction fuel with
  | zero =>
    intro L a w hc I
    have hz : ∀ i, i < l.length → L.getD i true = true := by
      intro i hi
      have h0 : (List.range l.length).countP (fun i => !L.getD i true) = 0 := by omega
      rw [List.countP_eq_zero] at h0
      have := h0 i (List.mem_range.2 hi)
      simpa using this
    have hr := none_ready L hz
    exact ⟨hr, done L a w hr I⟩
  | succ fuel ih =>
    intro L a w hc I
    refine ⟨fun hr => done L a w hr I, fun i hi => ?_⟩
    obtain ⟨hil, hif, o, ho, hw⟩ := (ready_iff i).1 hi
    have hcount : (List.range l.length).countP (fun j => !(L.setIfInBounds i true).getD j true) ≤ fuel := by
      have hlt : (List.range l.length).countP (fun j => !(L.setIfInBounds i true).getD j true) < (List.range l.length).countP (fun j => !L.getD j true) := by
        rw [List.countP_eq_length_filter, List.countP_eq_length_filter]
        have hsub : (List.range l.length).filter (fun j => !(L.setIfInBounds i true).getD j true) = ((List.range l.length).filter (fun j => !L.getD j true)).filter (fun j => j != i) := by
          rw [List.filter_filter]
          apply List.filter_congr
          intro j hj
          rw [getD_set j (by rw [I.len]; exact hil)]
          by_cases hji : j = i
          · simp [hji]
          · simp [hji]
        rw [hsub]
        have hlt2 := List.length_filter_lt_length_iff_exists (l := (List.range l.length).filter (fun j => !L.getD j true)) (p := fun j => j != i)
        exact hlt2.2 ⟨i, List.mem_filter.2 ⟨List.mem_range.2 hil, by rw [hif]; rfl⟩, by simp⟩
      omega
    have hdeps : ∀ j ∈ waitsOn o, j < i ∧ L.getD j true = true := by
      intro j hj
      obtain ⟨e, he, rfl⟩ := List.mem_map.1 hj
      obtain ⟨he1, he2⟩ := List.mem_filter.1 he
      have hlt := back i o ho _ hj
      refine ⟨hlt, ?_⟩
      rw [getD_lt (by rw [I.len]; omega) true false]
      exact hw e he1 he2
    by_cases him : i < m
    · have hs := hstep i o a w him ho I.world I.defers I.size I.same (fun j oj d hj hoj hd => by
        obtain ⟨hlt, hl⟩ := hdeps j hj
        exact I.has j oj d (by omega) hl hoj hd)
      refine wpOp_mono (fun a' w' h => ih _ a' w' hcount ?_) hs
      obtain ⟨v, rfl, hb, hg⟩ := h
      have hsome := h3 i him
      rw [ho] at hsome
      obtain ⟨d, hd⟩ := Option.isSome_iff_exists.1 (by simpa using hsome : o.dst.isSome = true)
      have hdl := hdst i o d him ho hd
      rw [hd]
      refine ⟨I.defers, by simp [Act.put, I.size], fun t ht => ?_, I.world.trans (hb.mono I.world.size), fun j oj dj hj hL hoj hdj => ?_, fun j h1 h2 => ?_, by simp [I.len]⟩
      · rw [put_getD_ne _ _ _ _ (fun e => ht i o him ho (by rw [hd, e]))]; exact I.same t ht
      · by_cases hji : j = i
        · subst hji
          rw [ho] at hoj
          obtain rfl := Option.some.inj hoj
          rw [hd] at hdj
          obtain rfl := Option.some.inj hdj
          rw [put_getD_same _ _ _ (by rw [I.size]; exact hdl)]
          exact hg
        · rw [getD_set j (by rw [I.len]; exact hil), if_neg hji] at hL
          have hne : d ≠ dj := by
            rintro rfl
            have := h4 i him j hj
            simp [ho, hoj, hd, hdj, Ne.symm hji] at this
          rw [put_getD_ne _ _ _ _ hne]
          exact hG j _ _ _ hb (I.has j oj dj hj hL hoj hdj)
      · rw [getD_set j (by rw [I.len]; exact hil), if_neg (by omega)]; exact I.unl j h1 h2
    · have hml : m + 1 = l.length := by rcases h2 with h2 | h2 <;> omega
      have him' : i = m := by omega
      subst him'
      have hall : ∀ j, j < i → L.getD j true = true := by
        intro j hj
        rcases h2 with h2 | ⟨_, h2⟩
        · omega
        · rw [ho] at h2
          simp only [Option.map_some, Option.getD_some, List.all_eq_true, List.mem_range] at h2
          exact (hdeps j (by simpa using h2 j hj)).2
      have hl := hlast a w I.world I.defers I.size I.same (fun j oj d hj hoj hd => I.has j oj d hj (hall j hj) hoj hd)
      rw [show l.length - i = 1 from by omega, List.range'_one, wpOps_cons] at hl
      refine wpOp_mono (fun a' w' h => ?_) hl
      have hn : Region.ready .any l.toArray (L.setIfInBounds i true) = [] := none_ready _ fun j hj => by
        rw [getD_set j (by rw [I.len]; exact hil)]
        by_cases hji : j = i
        · rw [if_pos hji]
        · rw [if_neg hji]; exact hall j (by omega)
      have hq : Q .normal a' w' := by simpa [wpOps] using h
      cases fuel with
      | zero => exact ⟨hn, hq⟩
      | succ fuel => exact ⟨fun _ => hq, fun x hx => by rw [hn] at hx; cases hx⟩

/-- What stands behind one operation. -/
def FlowPost (a : Act) (d : Option Tmp) (w : World) (g : Value → World → Prop) (a' : Act) (w' : World) : Prop := ∃ v, a' = a.put d v ∧ Below w.heap.size w w' ∧ g v w'
/-- What one operation owes: in a frame and a world in which what it waits on has left what it leaves. -/
def FlowStep (P : Program) (l : List Oper) (m : Nat) (a0 : Act) (w0 : World) (G : Nat → Value → World → Prop) (Q : Exit → Act → World → Prop) (i : Nat) : Prop :=
  ∀ o a w, l[i]? = some o → Below w0.heap.size w0 w → a.defers = a0.defers → a.tmps.size = a0.tmps.size → (∀ t, freeOf l m t → a.tmps.getD t undef = a0.tmps.getD t undef) →
    (∀ j oj d, j ∈ waitsOn o → l[j]? = some oj → oj.dst = some d → G j (a.tmps.getD d undef) w) →
    wpList P l.toArray (fun e a' w' => match e with | .normal => FlowPost a o.dst w (G i) a' w' | e => Q e a' w') [o] a w

theorem wpOp_of_wpList {l : List Oper} {i : Nat} {o : Oper} {a : Act} {w : World} {K : Act → World → Prop} {Q Q' : Exit → Act → World → Prop} (ho : l[i]? = some o)
    (hQ : ∀ e a w, e ≠ .normal → Q' e a w → Q e a w) (hK : ∀ a w, Q' .normal a w → K a w)
    (h : wpList P l.toArray Q' [o] a w) : wpOp P l.toArray Q i K a w := by
  unfold wpOp
  have ho' : l.toArray[i]? = some o := by simpa using ho
  simp only [ho']
  unfold wpList at h
  have hout : LetsOut Q' → LetsOut Q := fun ⟨a, w, h⟩ => ⟨a, w, hQ _ _ _ (by simp) h⟩
  by_cases hw : Region.wanted o (yielded l.toArray a.tmps) = true
  · rw [if_pos hw] at h ⊢
    rcases h with h | ⟨h1, h2⟩
    · refine .inl ?_
      unfold Oper.wp at *
      generalize (execOp a.eval o).run P w = r at *
      cases r with
      | ok n w' =>
        cases n <;> simp only [Oper.upon] at h ⊢ <;> first
          | exact hK _ _ (by simpa [wpList] using h)
          | exact Calls.mono h (fun e w'' he => by
              cases e
              · exact hK _ _ (by simpa [wpList] using he)
              · exact hQ _ _ _ (by simp) he
              · exact hout he)
          | exact Rows.mono h (fun _ _ he => hK _ _ (by simpa [wpList] using he))
          | exact h
      | halt x w' => cases x <;> simp only [Oper.upon] at h ⊢ <;> first | exact hQ _ _ _ (by simp) h | exact h
    · exact .inr ⟨h1, hout h2⟩
  · rw [if_neg hw] at h ⊢
    exact hK _ _ (by simpa [wpList] using h)

theorem wp_region_flow {id : Nat} {l : List Oper} (m : Nat) {a0 : Act} {w0 : World} (G : Nat → Value → World → Prop) {Q : Exit → Act → World → Prop}
    (hm : P.follows .mixedOrders = true) (hok : flowOk l m = true)
    (hdst : ((List.range m).all fun i => ((l[i]?).bind (·.dst)).all (· < a0.tmps.size)) = true)
    (hG : ∀ i v w w', Below w.heap.size w w' → G i v w → G i v w')
    (hstep : ∀ i, i < m → FlowStep P l m a0 w0 G Q i)
    (hlast : ∀ a w, Below w0.heap.size w0 w → a.defers = a0.defers → a.tmps.size = a0.tmps.size → (∀ t, freeOf l m t → a.tmps.getD t undef = a0.tmps.getD t undef) →
      (∀ j o d, j < m → l[j]? = some o → o.dst = some d → G j (a.tmps.getD d undef) w) → wpList P l.toArray Q (l.drop m) a w) : (Code.region id l.toArray true).wp P Q a0 w0 := by
  refine wp_region_any hm ?_
  refine flow_any (a0 := a0) (w0 := w0) hok ?_ hG ?_ ?_ _ _ _ _ ?_ ?_
  · intro i o d hi ho hd
    have := List.all_eq_true.1 hdst i (List.mem_range.2 hi)
    rw [ho] at this
    simpa [hd] using this
  · intro i o a w hi ho hB hd hs hf hg
    exact wpOp_of_wpList ho (fun e a w he h => by cases e <;> first | exact absurd rfl he | exact h) (fun a w h => h) (hstep i hi o a w ho hB hd hs hf hg)
  · intro a w hB hd hs hf hg
    have h := hlast a w hB hd hs hf hg
    have e : wpOps P l.toArray Q (List.range' m (l.drop m).length) = wpList P l.toArray Q (l.drop m) := wpOps_eq_wpList _ _ (fun j => by simp)
    rw [List.length_drop] at e
    rw [e]; exact h
  · rw [List.size_toArray]
    exact Nat.le_trans List.countP_le_length (by simp)
  · refine ⟨rfl, rfl, fun _ _ => rfl, (Below.refl _ _).drew, fun j o d hj hL ho hd => ?_, fun j h1 h2 => ?_, by simp⟩
    · have hlt : j < l.length := by
        rcases Nat.lt_or_ge j l.length with h | h
        · exact h
        · rw [List.getElem?_eq_none h] at ho; cases ho
      simp [Array.getD, hlt] at hL
    · simp [Array.getD, h2]

def freeB (l : List Oper) (m t : Nat) : Bool := (l.take m).all fun o => o.dst != some t
theorem freeOf_of {l : List Oper} {m t : Nat} (h : freeB l m t = true) : freeOf l m t := by
  intro j o hj ho hd
  have hlt : j < l.length := by
    rcases Nat.lt_or_ge j l.length with h | h
    · exact h
    · rw [List.getElem?_eq_none h] at ho; cases ho
  have hmem : o ∈ l.take m := by
    rw [List.mem_take_iff_getElem]
    refine ⟨j, by omega, ?_⟩
    rw [List.getElem?_eq_getElem hlt] at ho
    exact Option.some.inj ho
  have := List.all_eq_true.1 h o hmem
  simp [hd] at this
theorem act_lit {a : Act} {l : Array Value} {n : Nat} (hd : a.defers = []) (hs : a.tmps.size = n) (h : ∀ t, t < l.size → a.tmps.getD t undef = l.getD t undef) (hn : n = l.size := by rfl) : a = ⟨l, []⟩ := by
  obtain ⟨tmps, defers⟩ := a
  obtain rfl : defers = [] := hd
  congr 1
  apply Array.ext
  · exact hs.trans hn
  · intro i h1 h2
    have := h i h2
    simpa [Array.getD, h1, h2] using this
theorem slotq {a : Array Value} {t : Nat} {v : Value} (h : a.getD t undef = v) : a[t]?.getD undef = v := by rw [← h]; simp [Array.getD_eq_getD_getElem?]
theorem frozen_of_block {w : World} {b : Nat} {cs : Array Value} {t : TypeId} (h : w.heap[b]? = some (.cells cs t (0, 0))) (o : Nat) : w.frozen? ⟨b, o, none⟩ = false := by
  simp [World.frozen?, h]
theorem set_block {w : World} {b : Nat} {cs : Array Value} {t : TypeId} {f : Nat × Nat} (h : w.heap[b]? = some (.cells cs t f)) (o : Nat) (v : Value) : (w.setCell ⟨b, o, none⟩ v).heap[b]? = some (.cells (cs.setIfInBounds o v) t f) := by
  simp [World.setCell, Array.getElem?_modify, h]
theorem set_other {w : World} {b b' : Nat} {x : Option Obj} (h : w.heap[b']? = x) (hne : b' ≠ b) (o : Nat) (v : Value) : (w.setCell ⟨b, o, none⟩ v).heap[b']? = x := by
  rw [← h]; simp [World.setCell, Array.getElem?_modify, Ne.symm hne]
end Go.Bod
namespace Go.Bod
open Go.Lib
theorem bt_data (s : ByteArray) (i : Nat) (h : i < s.size) : bt s i = (s.data.toList[i]'(by simpa using h)).toNat := by
  unfold bt; rw [get!_lt s i h]; rfl
theorem hasPrefix_one (s : ByteArray) (c : UInt8) : Lib.hasPrefix s.data.toList [c] = decide (0 < s.size ∧ bt s 0 = c.toNat) := by
  unfold Lib.hasPrefix
  by_cases h : 0 < s.size
  · have hb := bt_data s 0 h
    cases hl : s.data.toList with
    | nil => have : s.data.toList.length = 0 := by rw [hl]; rfl
             rw [Array.length_toList] at this
             have h2 : s.size = s.data.size := rfl
             omega
    | cons x xs =>
      rw [hb]
      simp only [hl, List.getElem_cons_zero]
      rw [Bool.eq_iff_iff, decide_eq_true_eq]
      simp only [List.isPrefixOf, Bool.and_true, beq_iff_eq]
      exact ⟨fun e => ⟨h, by rw [e]⟩, fun e => UInt8.toNat_inj.1 e.2.symm⟩
  · have h2 : s.size = s.data.size := rfl
    have : s.data.toList = [] := List.eq_nil_of_length_eq_zero (by rw [Array.length_toList]; omega)
    rw [this]
    simp [List.isPrefixOf, h]
theorem hasPrefix_at (s : ByteArray) (k : Nat) (c : UInt8) : Lib.hasPrefix (s.extract k s.size).data.toList [c] = decide (k < s.size ∧ bt s k = c.toNat) := by
  rw [hasPrefix_one, size_extract]
  by_cases h : k < s.size
  · rw [bt_extract s k s.size 0 (by omega), Nat.add_zero]
    congr 1
    rw [Nat.min_self]
    exact propext ⟨fun hh => ⟨h, hh.2⟩, fun hh => ⟨by omega, hh.2⟩⟩
  · rw [decide_eq_false (by omega), decide_eq_false (by omega)]
end Go.Bod
namespace Go.Proofs.YtmelgecjaonbbaaGreatDoor
open Go.RowKit Go.Bod

set_option maxRecDepth 100000 in
set_option maxHeartbeats 2000000 in
theorem made_any (s : ByteArray) (a b : Int) (w : World) (h0 : 0 ≤ a) (h1 : a < s.size) (hb : b ≤ 4611686018427387904) (hs : s.size ≤ 4611686018427387904) (hu : ub s a.toNat) (hT : Tabs w) :
    Calls Tryz.prog 140 #[.string s, .int .i64 a, .int .i64 b] w fun e w' => e = .returned (.agg #[.int .i64 a, .int .i64 b, .int .i64 (mcls s a.toNat), .int .i64 (mcel s a.toNat)]) ∧ Below w.heap.size w w' := by
  obtain ⟨a, rfl⟩ := Int.eq_ofNat_of_zero_le h0
  rw [Int.toNat_natCast] at *
  have hA := fun w hT => At_any s a w h0 h1 hs (by rw [Int.toNat_natCast]; exact hu) hT
  rw [Int.toNat_natCast] at hA
  have HA := Lib.hid hA
  clear hA
  have hm1 : mcls s a = if uch s a = 13 ∧ a + 1 < s.size ∧ bt s (a + 1) = 10 then 1 else cls (uch s a) := by unfold mcls crlf; rfl
  have hm2 : mcel s a = if uch s a = 13 ∧ a + 1 < s.size ∧ bt s (a + 1) = 10 then 0 else wcl (uch s a) := by unfold mcel crlf; rfl
  have hp : Lib.hasPrefix (s.extract (a + 1) s.size).data.toList [10] = decide (a + 1 < s.size ∧ bt s (a + 1) = 10) := hasPrefix_at s (a + 1) 10
  generalize uch s a = c at *
  have M1 := Lib.hid hm1
  have M2 := Lib.hid hm2
  have HP := Lib.hid hp
  clear hm1 hm2 hp
  go_enter Tryz.func140, Tryz.ntmps140
  go_wp2_with fail
  refine (HA.out _ (hT.alloc _)).mono ?_
  rintro e w1 ⟨rfl, hb1⟩
  have hz : w.heap.size < w1.heap.size := by have := hb1.size; simp at this; omega
  go_wp2
  refine wp_region_flow 10 (fun i v w => match i with
    | 0 => v = .int .i64 a
    | 1 => v = .int .i64 b
    | 2 => v = .pointer (some ⟨w1.heap.size, 0, none⟩)
    | 3 => v = .int .i32 c
    | 4 => v = .int .i64 (cls c)
    | 5 => v = .pointer (some ⟨w1.heap.size, 0, none⟩)
    | 6 => v = .int .i32 c
    | 7 => v = .int .i64 (wcl c)
    | 8 => v = .agg #[.int .i64 a, .int .i64 b, .int .i64 (cls c), .int .i64 (wcl c)]
    | 9 => ∃ D, v = .pointer (some ⟨D, 0, none⟩) ∧ w1.heap.size < D ∧ w.heap[D]? = some (.cells #[.int .i64 0, .int .i64 0, .int .i64 0, .int .i64 0] 34 (0, 0))
    | _ => True) (by kernel_rfl) (by kernel_rfl) (by kernel_rfl) ?flowG ?flowS ?flowL
  case flowG =>
    intro i v w w' hb hg
    match i with
    | 0 | 1 | 2 | 3 | 4 | 5 | 6 | 7 | 8 => exact hg
    | 9 => obtain ⟨D, h1, h2, h3⟩ := hg; exact ⟨D, h1, h2, block_via hb h3⟩
    | _ + 10 => trivial
  case flowS =>
    intro i hi
    match i, hi with
    | 0, _ =>
      intro o x y ho hB hd hs hf hg
      obtain rfl := Option.some.inj ho
      have e1 : x.tmps[1]?.getD undef = .int .i64 a := slotq (hf 1 (freeOf_of (by kernel_rfl)))
      clear ho hf hg hs hd
      go_wp2
      exact ⟨_, rfl, Below.refl _ _, rfl⟩
    | 1, _ =>
      intro o x y ho hB hd hs hf hg
      obtain rfl := Option.some.inj ho
      have e2 : x.tmps[2]?.getD undef = .int .i64 b := slotq (hf 2 (freeOf_of (by kernel_rfl)))
      clear ho hf hg hs hd
      go_wp2
      exact ⟨_, rfl, Below.refl _ _, rfl⟩
    | 2, _ =>
      intro o x y ho hB hd hs hf hg
      obtain rfl := Option.some.inj ho
      have e7 : x.tmps[7]?.getD undef = .pointer (some ⟨w1.heap.size, 0, none⟩) := slotq (hf 7 (freeOf_of (by kernel_rfl)))
      clear ho hf hg hs hd
      go_wp2
      exact ⟨_, rfl, Below.refl _ _, rfl⟩
    | 3, _ =>
      intro o x y ho hB hd hs hf hg
      obtain rfl := Option.some.inj ho
      have e18 : x.tmps[18]?.getD undef = .pointer (some ⟨w1.heap.size, 0, none⟩) := slotq (hg 2 _ _ (by decide) rfl rfl)
      have c1 : y.cell? ⟨w1.heap.size, 0, none⟩ = some (.int .i32 c) := cell_via hB (by simp)
      clear ho hf hg hs hd
      go_wp2
      exact ⟨_, rfl, Below.refl _ _, rfl⟩
    | 4, _ =>
      intro o x y ho hB hd hs hf hg
      obtain rfl := Option.some.inj ho
      have e19 : x.tmps[19]?.getD undef = .int .i32 c := slotq (hg 3 _ _ (by decide) rfl rfl)
      clear ho hf hg hs hd
      go_wp2_with (go_at_call 198; refine (Class_any c _).mono ?_; rintro e w2 ⟨rfl, hb2⟩)
      exact ⟨_, rfl, hb2, rfl⟩
    | 5, _ =>
      intro o x y ho hB hd hs hf hg
      obtain rfl := Option.some.inj ho
      have e7 : x.tmps[7]?.getD undef = .pointer (some ⟨w1.heap.size, 0, none⟩) := slotq (hf 7 (freeOf_of (by kernel_rfl)))
      clear ho hf hg hs hd
      go_wp2
      exact ⟨_, rfl, Below.refl _ _, rfl⟩
    | 6, _ =>
      intro o x y ho hB hd hs hf hg
      obtain rfl := Option.some.inj ho
      have e21 : x.tmps[21]?.getD undef = .pointer (some ⟨w1.heap.size, 0, none⟩) := slotq (hg 5 _ _ (by decide) rfl rfl)
      have c1 : y.cell? ⟨w1.heap.size, 0, none⟩ = some (.int .i32 c) := cell_via hB (by simp)
      clear ho hf hg hs hd
      go_wp2
      exact ⟨_, rfl, Below.refl _ _, rfl⟩
    | 7, _ =>
      intro o x y ho hB hd hs hf hg
      obtain rfl := Option.some.inj ho
      have e22 : x.tmps[22]?.getD undef = .int .i32 c := slotq (hg 6 _ _ (by decide) rfl rfl)
      clear ho hf hg hs hd
      go_wp2_with (go_at_call 199; refine (Cells_any c _).mono ?_; rintro e w2 ⟨rfl, hb2⟩)
      exact ⟨_, rfl, hb2, rfl⟩
    | 8, _ =>
      intro o x y ho hB hd hs hf hg
      obtain rfl := Option.some.inj ho
      have e16 : x.tmps[16]?.getD undef = .int .i64 a := slotq (hg 0 _ _ (by decide) rfl rfl)
      have e17 : x.tmps[17]?.getD undef = .int .i64 b := slotq (hg 1 _ _ (by decide) rfl rfl)
      have e20 : x.tmps[20]?.getD undef = .int .i64 (cls c) := slotq (hg 4 _ _ (by decide) rfl rfl)
      have e23 : x.tmps[23]?.getD undef = .int .i64 (wcl c) := slotq (hg 7 _ _ (by decide) rfl rfl)
      clear ho hf hg hs hd
      go_wp2
      exact ⟨_, rfl, Below.refl _ _, rfl⟩
    | 9, _ =>
      intro o x y ho hB hd hs hf hg
      obtain rfl := Option.some.inj ho
      have hl := hB.size
      simp at hl
      clear ho hf hg hs hd
      go_wp2
      exact ⟨_, rfl, below_alloc (Below.refl _ _) _, _, rfl, by omega, alloc_get _ _⟩
    | _ + 10, h => exact absurd h (by omega)
  case flowL =>
    intro x y hB hd hs hf hg
    obtain ⟨D, e9x, hD, bD⟩ : ∃ D, x.tmps.getD 9 undef = .pointer (some ⟨D, 0, none⟩) ∧ w1.heap.size < D ∧ y.heap[D]? = some (.cells #[.int .i64 0, .int .i64 0, .int .i64 0, .int .i64 0] 34 (0, 0)) := hg 9 _ _ (by decide) rfl rfl
    have hx : x = ⟨#[.string s, .int .i64 a, .int .i64 b, undef, undef, undef, .pointer (some ⟨w.heap.size, 0, none⟩), .pointer (some ⟨w1.heap.size, 0, none⟩), .bool true, .pointer (some ⟨D, 0, none⟩), .tuple #[.agg #[.int .i32 c, .int .i64 (uln s a)], .bool true], .string s, .int .i64 a, .tuple #[.agg #[.int .i32 c, .int .i64 (uln s a)], .bool true], .agg #[.int .i32 c, .int .i64 (uln s a)], .bool true, .int .i64 a, .int .i64 b, .pointer (some ⟨w1.heap.size, 0, none⟩), .int .i32 c, .int .i64 (cls c), .pointer (some ⟨w1.heap.size, 0, none⟩), .int .i32 c, .int .i64 (wcl c), .agg #[.int .i64 a, .int .i64 b, .int .i64 (cls c), .int .i64 (wcl c)], undef, undef, undef, undef, undef, undef, undef, undef, undef, undef, undef, undef, undef], []⟩ := by
      refine act_lit hd hs ?_
      intro t ht
      match t, ht with
      | 0, _ => exact hf 0 (freeOf_of (by kernel_rfl))
      | 1, _ => exact hf 1 (freeOf_of (by kernel_rfl))
      | 2, _ => exact hf 2 (freeOf_of (by kernel_rfl))
      | 3, _ => exact hf 3 (freeOf_of (by kernel_rfl))
      | 4, _ => exact hf 4 (freeOf_of (by kernel_rfl))
      | 5, _ => exact hf 5 (freeOf_of (by kernel_rfl))
      | 6, _ => exact hf 6 (freeOf_of (by kernel_rfl))
      | 7, _ => exact hf 7 (freeOf_of (by kernel_rfl))
      | 8, _ => exact hf 8 (freeOf_of (by kernel_rfl))
      | 9, _ => exact e9x
      | 10, _ => exact hf 10 (freeOf_of (by kernel_rfl))
      | 11, _ => exact hf 11 (freeOf_of (by kernel_rfl))
      | 12, _ => exact hf 12 (freeOf_of (by kernel_rfl))
      | 13, _ => exact hf 13 (freeOf_of (by kernel_rfl))
      | 14, _ => exact hf 14 (freeOf_of (by kernel_rfl))
      | 15, _ => exact hf 15 (freeOf_of (by kernel_rfl))
      | 16, _ => exact hg 0 _ _ (by decide) rfl rfl
      | 17, _ => exact hg 1 _ _ (by decide) rfl rfl
      | 18, _ => exact hg 2 _ _ (by decide) rfl rfl
      | 19, _ => exact hg 3 _ _ (by decide) rfl rfl
      | 20, _ => exact hg 4 _ _ (by decide) rfl rfl
      | 21, _ => exact hg 5 _ _ (by decide) rfl rfl
      | 22, _ => exact hg 6 _ _ (by decide) rfl rfl
      | 23, _ => exact hg 7 _ _ (by decide) rfl rfl
      | 24, _ => exact hg 8 _ _ (by decide) rfl rfl
      | 25, _ => exact hf 25 (freeOf_of (by kernel_rfl))
      | 26, _ => exact hf 26 (freeOf_of (by kernel_rfl))
      | 27, _ => exact hf 27 (freeOf_of (by kernel_rfl))
      | 28, _ => exact hf 28 (freeOf_of (by kernel_rfl))
      | 29, _ => exact hf 29 (freeOf_of (by kernel_rfl))
      | 30, _ => exact hf 30 (freeOf_of (by kernel_rfl))
      | 31, _ => exact hf 31 (freeOf_of (by kernel_rfl))
      | 32, _ => exact hf 32 (freeOf_of (by kernel_rfl))
      | 33, _ => exact hf 33 (freeOf_of (by kernel_rfl))
      | 34, _ => exact hf 34 (freeOf_of (by kernel_rfl))
      | 35, _ => exact hf 35 (freeOf_of (by kernel_rfl))
      | 36, _ => exact hf 36 (freeOf_of (by kernel_rfl))
      | 37, _ => exact hf 37 (freeOf_of (by kernel_rfl))
      | _ + 38, h => exact absurd h (by simp)
    subst hx
    clear hf hg hs hd
    have hD1 := block_lt bD
    have bR : y.heap[w.heap.size]? = some (.cells #[.int .i64 0, .int .i64 0, .int .i64 0, .int .i64 0] 34 (0, 0)) := block_via hB (block_old _ (block_via hb1 (alloc_get _ _)))
    have d0 : y.cell? ⟨D, 0, none⟩ = some (.int .i64 0) := cell_of_block bD 0
    have d1 : y.cell? ⟨D, 1, none⟩ = some (.int .i64 0) := cell_of_block bD 1
    have d2 : y.cell? ⟨D, 2, none⟩ = some (.int .i64 0) := cell_of_block bD 2
    have d3 : y.cell? ⟨D, 3, none⟩ = some (.int .i64 0) := cell_of_block bD 3
    have k0 := frozen_of_block bD 0
    have k1 := frozen_of_block bD 1
    have k2 := frozen_of_block bD 2
    have k3 := frozen_of_block bD 3
    have c1 : y.heap[w1.heap.size]? = some (.cells #[.int .i32 c, .int .i64 (uln s a)] 187 (0, 0)) := block_via hB (alloc_get _ _)
    have hB2 : Below w.heap.size w y := (below_alloc (below_of_alloc hb1) _).trans (hB.mono (by have := hb1.size; simp at this; simp; omega))
    dsimp only
    go_step
    go_step
    go_step
    go_step
    have z1 := set_block (set_block (set_block (set_block bD 0 (.int .i64 a)) 1 (.int .i64 b)) 2 (.int .i64 (cls c))) 3 (.int .i64 (wcl c))
    have z2 := set_other (set_other (set_other (set_other bR (show w.heap.size ≠ D by omega) 0 (.int .i64 a)) (show w.heap.size ≠ D by omega) 1 (.int .i64 b)) (show w.heap.size ≠ D by omega) 2 (.int .i64 (cls c))) (show w.heap.size ≠ D by omega) 3 (.int .i64 (wcl c))
    have z3 := set_other (set_other (set_other (set_other c1 (show w1.heap.size ≠ D by omega) 0 (.int .i64 a)) (show w1.heap.size ≠ D by omega) 1 (.int .i64 b)) (show w1.heap.size ≠ D by omega) 2 (.int .i64 (cls c))) (show w1.heap.size ≠ D by omega) 3 (.int .i64 (wcl c))
    have z4 := (((hB2.setCell (p := ⟨D, 0, none⟩) (show w.heap.size ≤ D by omega) (.int .i64 a)).setCell (p := ⟨D, 1, none⟩) (show w.heap.size ≤ D by omega) (.int .i64 b)).setCell (p := ⟨D, 2, none⟩) (show w.heap.size ≤ D by omega) (.int .i64 (cls c))).setCell (p := ⟨D, 3, none⟩) (show w.heap.size ≤ D by omega) (.int .i64 (wcl c))
    generalize (((y.setCell ⟨D, 0, none⟩ (.int .i64 a)).setCell ⟨D, 1, none⟩ (.int .i64 b)).setCell ⟨D, 2, none⟩ (.int .i64 (cls c))).setCell ⟨D, 3, none⟩ (.int .i64 (wcl c)) = z at *
    clear d0 d1 d2 d3 k0 k1 k2 k3 c1 bD bR e9x
    have d0 : z.cell? ⟨D, 0, none⟩ = some (.int .i64 a) := cell_of_block z1 0
    have d1 : z.cell? ⟨D, 1, none⟩ = some (.int .i64 b) := cell_of_block z1 1
    have d2 : z.cell? ⟨D, 2, none⟩ = some (.int .i64 (cls c)) := cell_of_block z1 2
    have d3 : z.cell? ⟨D, 3, none⟩ = some (.int .i64 (wcl c)) := cell_of_block z1 3
    have k0 := frozen_of_block z1
    have r0 : z.cell? ⟨w.heap.size, 0, none⟩ = some (.int .i64 0) := cell_of_block z2 0
    have r1 : z.cell? ⟨w.heap.size, 1, none⟩ = some (.int .i64 0) := cell_of_block z2 1
    have r2 : z.cell? ⟨w.heap.size, 2, none⟩ = some (.int .i64 0) := cell_of_block z2 2
    have r3 : z.cell? ⟨w.heap.size, 3, none⟩ = some (.int .i64 0) := cell_of_block z2 3
    have q0 := frozen_of_block z2
    have c1 : z.cell? ⟨w1.heap.size, 0, none⟩ = some (.int .i32 c) := cell_of_block z3 0
    have hDw : ¬ D = w.heap.size := by omega
    have hDw' : ¬ w.heap.size = D := by omega
    clear z1 z2 z3
    by_cases h13 : c = 13
    · subst h13
      cases hq : decide (a + 1 < s.size ∧ bt s (a + 1) = 10)
      · have n1 : mcls s a = cls 13 := by rw [M1.out, if_neg (fun h => of_decide_eq_false hq h.2)]
        have n2 : mcel s a = wcl 13 := by rw [M2.out, if_neg (fun h => of_decide_eq_false hq h.2)]
        have N1 := Lib.hid n1
        have N2 := Lib.hid n2
        have HQ := Lib.hid hq
        clear hq n1 n2
        go_wp2_with fail
        refine (Tryz.strings_HasPrefix _ _ _).mono ?_
        rintro e w' ⟨rfl, rfl⟩
        rw [HP.out, HQ.out]
        go_wp2
        refine bodyPost_ret (v := .agg #[.int .i64 a, .int .i64 b, .int .i64 (cls 13), .int .i64 (wcl 13)]) (by simp [results, Tryz.results140, go_sem, *]) rfl ⟨by rw [N1.out, N2.out], ?_⟩
        repeat' (first | (with_reducible exact z4) | (with_reducible refine Below.setCell ?_ ?_ _) | (dsimp only; omega))
      · have n1 : mcls s a = 1 := by rw [M1.out, if_pos ⟨rfl, of_decide_eq_true hq⟩]
        have n2 : mcel s a = 0 := by rw [M2.out, if_pos ⟨rfl, of_decide_eq_true hq⟩]
        have N1 := Lib.hid n1
        have N2 := Lib.hid n2
        have HQ := Lib.hid hq
        clear hq n1 n2
        go_wp2_with fail
        refine (Tryz.strings_HasPrefix _ _ _).mono ?_
        rintro e w' ⟨rfl, rfl⟩
        rw [HP.out, HQ.out]
        go_wp2
        refine bodyPost_ret (v := .agg #[.int .i64 a, .int .i64 b, .int .i64 1, .int .i64 0]) (by simp [results, Tryz.results140, go_sem, *]) rfl ⟨by rw [N1.out, N2.out], ?_⟩
        repeat' (first | (with_reducible exact z4) | (with_reducible refine Below.setCell ?_ ?_ _) | (dsimp only; omega))
    · have t13 : (c == 13) = false := by rw [beq_eq_false_iff_ne]; exact h13
      have n1 : mcls s a = cls c := by rw [M1.out, if_neg (fun h => h13 h.1)]
      have n2 : mcel s a = wcl c := by rw [M2.out, if_neg (fun h => h13 h.1)]
      have N1 := Lib.hid n1
      have N2 := Lib.hid n2
      clear h13 n1 n2
      go_wp2_with fail
      refine bodyPost_ret (v := .agg #[.int .i64 a, .int .i64 b, .int .i64 (cls c), .int .i64 (wcl c)]) (by simp [results, Tryz.results140, go_sem, *]) rfl ⟨by rw [N1.out, N2.out], ?_⟩
      repeat' (first | (with_reducible exact z4) | (with_reducible refine Below.setCell ?_ ?_ _) | (dsimp only; omega))
end Go.Proofs.YtmelgecjaonbbaaGreatDoor
namespace Go.Bod

theorem cnext_gt {s : ByteArray} {i : Nat} (h : i < s.size) : i < cnext s i := (cnext_spec h).1
theorem cnext_le (s : ByteArray) (i : Nat) : cnext s i ≤ s.size := nextP_le _ _ _ _ rfl
/-- The clusters from a place on: where each begins and ends. -/
def cfrom (s : ByteArray) (i : Nat) : List (Nat × Nat) := if h : i < s.size then (i, cnext s i) :: cfrom s (cnext s i) else []
  termination_by s.size - i
  decreasing_by have := cnext_gt h; omega
def clist (s : ByteArray) : List (Nat × Nat) := cfrom s 0

theorem cfrom_lt {s : ByteArray} {i : Nat} (h : i < s.size) : cfrom s i = (i, cnext s i) :: cfrom s (cnext s i) := by rw [cfrom, dif_pos h]
theorem cfrom_ge {s : ByteArray} {i : Nat} (h : s.size ≤ i) : cfrom s i = [] := by rw [cfrom, dif_neg (by omega)]
/-- Every one of them: where it stands. -/
theorem cfrom_mem {s : ByteArray} : ∀ k i, s.size - i = k → cb s i = true → ∀ x ∈ cfrom s i, i ≤ x.1 ∧ x.1 < x.2 ∧ x.2 ≤ s.size ∧ cb s x.1 = true ∧ cb s x.2 = true ∧ ∀ j, x.1 < j → j < x.2 → cb s j = false := by
  intro k
  induction k using Nat.strongRecOn with
  | _ k ih =>
    intro i hk hb x hx
    by_cases h : i < s.size
    · rw [cfrom_lt h] at hx
      obtain ⟨a, b, c, d⟩ := cnext_spec h
      rcases List.mem_cons.1 hx with rfl | hx
      · exact ⟨Nat.le_refl _, a, b, hb, c, d⟩
      · obtain ⟨e1, e2⟩ := ih (s.size - cnext s i) (by omega) (cnext s i) rfl c x hx
        exact ⟨by omega, e2⟩
    · rw [cfrom_ge (by omega)] at hx; cases hx
theorem cfrom_length {s : ByteArray} : ∀ k i, s.size - i = k → (cfrom s i).length ≤ s.size - i := by
  intro k
  induction k using Nat.strongRecOn with
  | _ k ih =>
    intro i hk
    by_cases h : i < s.size
    · rw [cfrom_lt h]
      have := cnext_gt h
      have := ih (s.size - cnext s i) (by omega) (cnext s i) rfl
      simp; omega
    · rw [cfrom_ge (by omega)]; simp
theorem clist_length (s : ByteArray) : (clist s).length ≤ s.size := cfrom_length _ 0 rfl
end Go.Bod
namespace Go.Proofs.YtmelgecjaonbbaaGreatDoor
open Go.RowKit Go.Bod
attribute [local go_sem] Oper.semAt_some

/-- A cluster as it is handed to a loop. -/
def cval (s : ByteArray) (x : Nat × Nat) : Value := .agg #[.int .i64 x.1, .int .i64 x.2, .int .i64 (mcls s x.1), .int .i64 (mcel s x.1)]

theorem Walk_any (s : ByteArray) (w : World) :
    Calls Tryz.prog 63 #[.string s] w fun e w' => e = .returned (.func (.func 139) #[] #[.pointer (some ⟨w.heap.size, 0, none⟩)]) ∧ w.alloc (.cells #[.string s] 9) = w' := by
  go_enter Tryz.func63, Tryz.ntmps63
  go_wp2
  go_ret
  exact ⟨rfl, rfl⟩

/-- A cluster of a text. -/
abbrev Clu (s : ByteArray) := { x : Nat × Nat // x ∈ clist s }
def cl1 {s : ByteArray} (xs : List (Clu s)) : List (Nat × Nat) := xs.map Subtype.val
theorem cl1_nil {s : ByteArray} : cl1 ([] : List (Clu s)) = [] := rfl
theorem cl1_snoc {s : ByteArray} (xs : List (Clu s)) (x : Clu s) : cl1 (xs ++ [x]) = cl1 xs ++ [x.1] := by simp [cl1]
theorem cl1_length {s : ByteArray} (xs : List (Clu s)) : (cl1 xs).length = xs.length := by simp [cl1]
def cvals (s : ByteArray) (x : Clu s) : Array Value := #[cval s x.1]

/-- What a round that goes on must keep: what lay below n₁, and one block more. -/
structure KeepB (n₁ B : Nat) (W W' : World) : Prop where
  below : Below n₁ W W'
  blk : W'.heap[B]? = W.heap[B]?
theorem KeepB.refl (n₁ B : Nat) (W : World) : KeepB n₁ B W W := ⟨Below.refl _ _, rfl⟩
theorem KeepB.trans {n₁ B : Nat} {X Y Z : World} (h : KeepB n₁ B X Y) (k : KeepB n₁ B Y Z) : KeepB n₁ B X Z := ⟨h.below.trans k.below, k.blk.trans h.blk⟩
theorem KeepB.of_below {n₁ B : Nat} {W W' : World} (h : Below W.heap.size W W') (hn : n₁ ≤ W.heap.size) (hB : B < W.heap.size) : KeepB n₁ B W W' := ⟨h.mono hn, h.block B hB⟩
theorem KeepB.set {n₁ B : Nat} {X W : World} (h : KeepB n₁ B X W) {p : Addr} (hn : n₁ ≤ p.block) (hB : B ≠ p.block) (v : Value) : KeepB n₁ B X (W.setCell p v) :=
  ⟨h.below.setCell hn v, (Below.heap_setCell _ _ _ _ hB).trans h.blk⟩
theorem KeepB.alloc {n₁ B : Nat} {X W : World} (h : KeepB n₁ B X W) (hn : n₁ ≤ W.heap.size) (hB : B < W.heap.size) (o : Obj) : KeepB n₁ B X (W.alloc o) :=
  ⟨h.below.alloc hn o, (Below.heap_alloc _ _ _ hB).trans h.blk⟩
theorem KeepB.put {n₁ B : Nat} {w : World} (hn : n₁ ≤ w.heap.size) (hB : B < w.heap.size) (W : World) (l : Nat) (o o' : Obj) (hl : w.heap.size ≤ l) (h : W.heap[l]? = some o) (a : o.isCells = false) (b : o.isWalk = false) : KeepB n₁ B W (W.putObj l o') :=
  ⟨belowK_b hn W l o o' hl h a b, (grownBy_putObj' W l o').block B (by have := (Array.getElem?_eq_some_iff.1 h).1; omega) (fun e => by cases e; omega)⟩

/-- Between two rounds of the iterator. -/
def WalkRel (s : ByteArray) (n₁ B : Nat) (W0 : World) (J : List (Clu s) → World → Prop) (v : Value) (wr : World) : Prop :=
  ∃ (pre : List (Clu s)) (i : Nat), v = .int .i64 i ∧ i ≤ s.size ∧ cb s i = true ∧ clist s = cl1 pre ++ cfrom s i ∧ J pre wr ∧ KeepB n₁ B W0 wr

theorem grown_of_below {W W' : World} (h : Below W.heap.size W W') : W.grownBy W' none := ⟨h.os, h.tape, h.output, h.size, fun k hk _ => h.block k hk⟩

set_option maxRecDepth 100000 in
theorem Walk1_stops (n : Nat) (s : ByteArray) (B n₁ : Nat) (w : World) (hs : s.size ≤ 4611686018427387904) (hT : Tabs w) (h1 : 1 < n₁) (hn : n₁ ≤ w.heap.size) (hc : w.cell? ⟨B, 0, none⟩ = some (.string s)) :
    SeqStopsK Fence.wide n Tryz.prog 139 #[.pointer (some ⟨B, 0, none⟩)] (cvals s) (KeepB n₁ B) (fun xs => cl1 xs = clist s) (fun pre => cl1 pre <+: clist s) (clist s).length w := by
  intro l J Jx W hW hJ hJx hY h0
  have HJ := Lib.hid hJ
  have HY := Lib.hid hY
  clear hJ hJx hY
  refine callsIn_of_wp Tryz.func139 rfl trivial ?_ rfl
  simp only [Tryz.ntmps139, List.size_toArray, List.length_cons, List.length_nil, Nat.reduceAdd, Nat.reduceSub, Array.replicate_succ, Array.replicate_zero, List.push_toArray, List.append_toArray, List.nil_append, List.cons_append]
  gi_wp2
  gi_loopw [3] (WalkRel s n₁ B W J) (fun p _ => s.size - (RowKit.intOf p).toNat)
  case atStart => exact ⟨[], 0, rfl, Nat.zero_le _, cb_zero s, rfl, h0, KeepB.refl _ _ _⟩
  case round =>
    obtain ⟨pre, i, rfl, hi, hb, hx, hj, hBW⟩ := hrel
    have hWn : n₁ ≤ W.heap.size := Nat.le_trans hn hW.size
    have hBw : B < w.heap.size := World.block_lt_of_cell? _ _ hc
    have hcr : wr.cell? ⟨B, 0, none⟩ = some (.string s) := (World.cell?_of_block (a := ⟨B, 0, none⟩) hBW.blk).trans (cell_via hW hc)
    have hTr : Tabs wr := (hT.of hW).below hBW.below h1
    have hwr := hBW.below.size
    have hWs := hW.size
    have HX := Lib.hid hx
    have HB := Lib.hid hb
    clear hx hb
    by_cases hlt : i < s.size
    · obtain ⟨g1, g2, g3, g4⟩ := cnext_spec hlt
      have G3 := Lib.hid g3
      have hcn : ∀ wx, Tabs wx → Calls Tryz.prog 19 #[.string s, .int .i64 i] wx fun e w' => e = .returned (.int .i64 (cnext s i)) ∧ Below wx.heap.size wx w' := fun wx hT => by
        have := cNext_any s i wx (by omega) (by omega) hs hT
        rwa [Int.toNat_natCast] at this
      have hcf := cfrom_lt hlt
      generalize cnext s i = t at *
      have hcm : ∀ wx, Tabs wx → Calls Tryz.prog 140 #[.string s, .int .i64 i, .int .i64 t] wx fun e w' => e = .returned (cval s (i, t)) ∧ Below wx.heap.size wx w' := fun wx hT => by
        have := made_any s i t wx (by omega) (by omega) (by omega) hs (by rw [Int.toNat_natCast]; exact cb_ub HB.out) hT
        rwa [Int.toNat_natCast] at this
      have HCF := Lib.hid hcf
      have HCN := Lib.hid hcn
      have HCM := Lib.hid hcm
      have hmem : (i, t) ∈ clist s := by rw [HX.out, HCF.out]; simp
      have hlen : pre.length < (clist s).length := by rw [HX.out, HCF.out, ← cl1_length]; simp
      have HL := Lib.hid hlen
      obtain ⟨v, hv⟩ : ∃ v : Value, v = cval s (i, t) := ⟨_, rfl⟩
      have HV := Lib.hid hv
      clear g3 g4 hcn hcm hcf hv
      gi_wp2_with fail
      refine ⟨trivial, fun h => (by cases h), ?_⟩
      refine (callsIn_wide.2 (HCN.out _ hTr)).mono ?_
      rintro e w1 ⟨rfl, hb1⟩
      have hcr1 : w1.cell? ⟨B, 0, none⟩ = some (.string s) := cell_via hb1 hcr
      gi_wp2_with fail
      refine ⟨trivial, fun h => (by cases h), ?_⟩
      refine (callsIn_wide.2 (HCM.out _ (hTr.of hb1))).mono ?_
      rintro e w2 ⟨rfl, hb2⟩
      have hb12 := below_from hb1 hb2
      have hj2 : J pre w2 := HJ.out pre wr w2 none hj (grown_of_below hb12) (fun r e => by cases e)
      obtain ⟨fn, tmps, assign, body, hy, hR⟩ := HY.out pre ⟨(i, t), hmem⟩ w2 hj2 HL.out
      dsimp only [cvals] at hy
      rw [← HV.out] at hy
      rw [← HV.out]
      gi_wp2_with fail
      refine ⟨fun h => (by cases h), ?_⟩
      refine hR.mono ?_
      have hpre : clist s = cl1 (pre ++ [⟨(i, t), hmem⟩]) ++ cfrom s t := by rw [cl1_snoc]; refine HX.out.trans ?_; rw [HCF.out]; simp
      have HP := Lib.hid hpre
      clear hR hy hpre hlen
      rintro e W3 (⟨rfl, hJ3, hk3⟩ | ⟨rfl, hJx3⟩)
      · gi_wp2
        go_roundw
        case rel => exact ⟨pre ++ [⟨(i, t), hmem⟩], t, rfl, g2, G3.out, HP.out, hJ3, (hBW.trans (KeepB.of_below hb12 (by omega) (by omega))).trans hk3⟩
        case measure => simp [RowKit.intOf]; omega
      · gi_wp2
        refine bodyPost_ret (results_none rfl _ _ _) rfl ?_
        exact ⟨⟨_, rfl⟩, .inr ⟨pre ++ [⟨(i, t), hmem⟩], ⟨_, HP.out.symm⟩, hJx3⟩⟩
    · gi_wp2
      go_end0
      refine ⟨⟨_, rfl⟩, .inl ⟨pre, ?_, hj⟩⟩
      have := HX.out; rw [cfrom_ge (by omega), List.append_nil] at this; exact this.symm
end Go.Proofs.YtmelgecjaonbbaaGreatDoor
namespace Go.Proofs.YtmelgecjaonbbaaGreatDoor
open Go.RowKit Go.Bod
attribute [local go_sem] Oper.semAt_some

/-! What the invariant of a loop over an iterator is made of: blocks of cells, known whole; and that what lay below lies as it lay. -/
theorem own_block {β : Type} (B b : Nat) (f : β → Array Value) (t : TypeId) (fz : Nat × Nat) : OwnFrom B (fun s W => W.heap[b]? = some (.cells (f s) t fz)) := by
  intro s W W' row hs hg hr
  rw [hg.block b (block_lt hs) (fun e => by
    obtain ⟨_, o, ho, hc⟩ := hr b e.symm
    rw [hs] at ho; cases ho; cases hc)]
  exact hs
theorem own_pure {β : Type} (B : Nat) (p : β → Prop) : OwnFrom B (fun s (_ : World) => p s) := fun _ _ _ _ hs _ _ => hs
theorem own_false {β : Type} (B : Nat) : OwnFrom B (fun (_ : β) (_ : World) => False) := fun _ _ _ _ hs _ _ => hs.elim
theorem keeps_set {B : Nat} {W W' : World} (h : KeepsFrom B W W') (p : Addr) (v : Value) : KeepsFrom B W (W'.setCell p v) := h.trans ((KeepsOthers.setCell _ _ _).from B)
theorem keeps_alloc {B : Nat} {W W' : World} (h : KeepsFrom B W W') (o : Obj) : KeepsFrom B W (W'.alloc o) := h.trans ((KeepsOthers.alloc _ _).from B)
theorem keeps_below {B : Nat} {X W W' : World} (h : KeepsFrom B X W) (hb : Below W.heap.size W W') : KeepsFrom B X W' :=
  h.trans ⟨hb.size, fun k o _ hk _ => block_via hb hk⟩
theorem keeps_drew {B : Nat} {W W' : World} (h : KeepsFrom B W W') (n : Nat) : KeepsFrom B W (W'.drewN n) := h.trans ⟨Nat.le_refl _, fun _ _ _ hk _ => hk⟩

set_option maxRecDepth 100000 in
theorem Count_in (n : Nat) (s : ByteArray) (w : World) (hs : s.size ≤ 4611686018427387904) (hT : Tabs w) :
    CallsIn Fence.wide (n + 3) Tryz.prog 275 #[.string s] w fun e w' => e = .returned (.int .i64 (clist s).length) ∧ Below w.heap.size w w' := by
  have hlen := clist_length s
  refine callsIn_of_wp_marks Tryz.func275 rfl trivial ?_ rfl
  simp only [Tryz.ntmps275, List.size_toArray, List.length_cons, List.length_nil, Nat.reduceAdd, Nat.reduceSub, Array.replicate_succ, Array.replicate_zero, List.push_toArray, List.append_toArray, List.nil_append, List.cons_append]
  gi_wp2_with fail
  refine ⟨trivial, ?_⟩
  refine (callsIn_wide.2 (Walk_any s _)).mono ?_
  rintro e w1 ⟨rfl, rfl⟩
  gi_wp2_with fail
  have hit := Walk1_stops (n + 2) s (w.heap.size + 1) w.heap.size ((w.alloc (.cells #[.int .i64 0] 3)).alloc (.cells #[.string s] 9)) hs ((hT.alloc _).alloc _) hT.lt.2 (by simp; omega) (by simp)
  refine wpIn_rangeFunc_ownG (α := Clu s) (n := n + 3) rfl (by omega) (encs := cvals s) (Kp := KeepB w.heap.size (w.heap.size + 1)) (gf := 139) (lb := #[.pointer (some ⟨w.heap.size + 1, 0, none⟩)]) rfl trivial (enters_of Tryz.func139 (by kernel_rfl) rfl)
    hit KeepB.trans (KeepB.put (by simp; omega) (by simp)) (Below.refl _ _) (fun _ => rfl)
    (fun pre W => W.heap[w.heap.size]? = some (.cells #[.int .i64 pre.length] 3 (0, 0)) ∧ Below w.heap.size w W) (fun _ _ _ => False) ?hI (fun _ => own_false _) ?h0
    (fun x => ⟨#[.string s, undef, .int .i64 0, .pointer (some ⟨w.heap.size, 0, none⟩), .string s, .func (.func 139) #[] #[.pointer (some ⟨w.heap.size + 1, 0, none⟩)], cval s x.1, undef, undef, undef], []⟩) ?hassign ?hbody ?hdone ?hstop
  case hI => exact OwnFrom.and (own_block _ _ (fun pre : List (Clu s) => #[.int .i64 pre.length]) 3 (0, 0)) (ownFrom_below (Nat.le_refl _) (by simp; omega))
  case h0 => exact ⟨block_old _ (alloc_get _ _), below_alloc (below_alloc (Below.refl _ _) _) _⟩
  case hassign =>
    intro l x W K hK
    gi_wp2
    simpa [cvals] using hK
  case hbody =>
    rintro l pre x W ⟨hb, hB⟩ hl
    have hc := cell_of_block hb 0
    have hf := frozen_of_block hb 0
    simp at hc
    gi_wp2
    refine ⟨keeps_set (KeepsFrom.refl _ _) _ _, (KeepB.refl _ _ _).set (p := ⟨w.heap.size, 0, none⟩) (Nat.le_refl _) (by simp) _, ?_, hB.setCell (Nat.le_refl _) _⟩
    have := set_block hb 0 (.int .i64 ((pre.length : Int) + 1))
    simpa using this
  case hdone =>
    rintro D ys W hD hy ⟨hb, hB⟩ hK
    have hc := cell_of_block hb 0
    simp at hc
    have hl : ys.length = (clist s).length := by rw [← hy, cl1_length]
    have HL := Lib.hid hl
    clear hl hy
    gi_wp2
    refine ⟨by simp, .inl ⟨_, _, rfl, run_takeDeferred hK, ?_⟩⟩
    exact ⟨_, results_tmp (t := 2) rfl _ _ _, (show Ending.returned (.int .i64 (ys.length : Int)) = _ from ret_i (by rw [HL.out])), hB.trans (belowK_b (w := w) (Nat.le_refl _) W D _ _ (by simp at hD; omega) hK rfl rfl)⟩
  case hstop =>
    intro D c pre W _ _ h _
    exact h.elim
theorem Count_any (s : ByteArray) (w : World) (hs : s.size ≤ 4611686018427387904) (hT : Tabs w) :
    Calls Tryz.prog 275 #[.string s] w fun e w' => e = .returned (.int .i64 (clist s).length) ∧ Below w.heap.size w w' := callsIn_wide.1 (Count_in 0 s w hs hT)
end Go.Proofs.YtmelgecjaonbbaaGreatDoor
namespace Go.Bod
/-- A summary. -/
structure Sm where
  bytes : Int
  units : Int
  clusters : Int
  cells : Int
  newlines : Int
  head : ByteArray
  tail : ByteArray
/-- The cells of clusters. -/
def cellsOf (s : ByteArray) (l : List (Nat × Nat)) : Int := (l.map fun x => mcel s x.1).sum
/-- How many line feeds a text has. -/
def nls (s : ByteArray) : Nat := Lib.countByte s.data.toList 10
def headOf (s : ByteArray) : ByteArray := s.extract 0 (min s.size 16)
def tailOf (s : ByteArray) : ByteArray := s.extract (s.size - 16) s.size
def measure (s : ByteArray) : Sm := ⟨s.size, Lib.runeCount s, (clist s).length, cellsOf s (clist s), nls s, headOf s, tailOf s⟩
def smVals (m : Sm) : Array Value := #[.int .i64 m.bytes, .int .i64 m.units, .int .i64 m.clusters, .int .i64 m.cells, .int .i64 m.newlines, .string m.head, .string m.tail]
end Go.Bod
namespace Go.Proofs.YtmelgecjaonbbaaGreatDoor
open Go.RowKit Go.Bod
attribute [local go_sem] Oper.semAt_some

theorem wcl_le (c : Int) : 0 ≤ wcl c ∧ wcl c ≤ 2 := by
  unfold wcl
  repeat' split
  all_goals omega
theorem mcel_le (s : ByteArray) (i : Nat) : 0 ≤ mcel s i ∧ mcel s i ≤ 2 := by
  unfold mcel
  split
  · omega
  · exact wcl_le _
theorem cellsOf_nil (s : ByteArray) : cellsOf s [] = 0 := rfl
theorem cellsOf_snoc (s : ByteArray) (l : List (Nat × Nat)) (x : Nat × Nat) : cellsOf s (l ++ [x]) = cellsOf s l + mcel s x.1 := by simp [cellsOf]
theorem cellsOf_le (s : ByteArray) (l : List (Nat × Nat)) : 0 ≤ cellsOf s l ∧ cellsOf s l ≤ 2 * l.length := by
  induction l with
  | nil => simp [cellsOf]
  | cons x l ih =>
    have h := mcel_le s x.1
    simp only [cellsOf, List.map_cons, List.sum_cons, List.length_cons] at *
    omega
/-- A loop's variable in its box. -/
theorem own_boxed {B : Nat} (b : Nat) (cs : Array Value) (t : TypeId) (fz : Nat × Nat) (p : Prop) : OwnFrom B (fun (_ : Unit) W => W.heap[b]? = some (.cells cs t fz) ∧ p) :=
  OwnFrom.and (own_block B b (fun (_ : Unit) => cs) t fz) (own_pure B (fun _ => p))

/-- The frame of Cells in a round, and the loop's variable. -/
def CellsAx (s : ByteArray) (w : World) (x : Clu s) (a' : Act) (W : World) : Prop :=
  ∃ b, w.heap.size + 1 < b ∧ W.heap[b]? = some (.cells #[.int .i64 x.1.1, .int .i64 x.1.2, .int .i64 (mcls s x.1.1), .int .i64 (mcel s x.1.1)] 34 (0, 0)) ∧
    a' = ⟨#[.string s, undef, .int .i64 0, .pointer (some ⟨w.heap.size, 0, none⟩), .pointer (some ⟨b, 0, none⟩), .string s, .func (.func 139) #[] #[.pointer (some ⟨w.heap.size + 1, 0, none⟩)], .agg #[.int .i64 x.1.1, .int .i64 x.1.2, .int .i64 (mcls s x.1.1), .int .i64 (mcel s x.1.1)], undef, undef, undef, undef, undef], []⟩

set_option maxRecDepth 100000 in
theorem Cells_in (n : Nat) (s : ByteArray) (w : World) (hs : s.size ≤ 1152921504606846976) (hT : Tabs w) :
    CallsIn Fence.wide (n + 3) Tryz.prog 276 #[.string s] w fun e w' => e = .returned (.int .i64 (cellsOf s (clist s))) ∧ Below w.heap.size w w' := by
  have hlen := clist_length s
  refine callsIn_of_wp_marks Tryz.func276 rfl trivial ?_ rfl
  simp only [Tryz.ntmps276, List.size_toArray, List.length_cons, List.length_nil, Nat.reduceAdd, Nat.reduceSub, Array.replicate_succ, Array.replicate_zero, List.push_toArray, List.append_toArray, List.nil_append, List.cons_append]
  gi_wp2_with fail
  refine ⟨trivial, ?_⟩
  refine (callsIn_wide.2 (Walk_any s _)).mono ?_
  rintro e w1 ⟨rfl, rfl⟩
  gi_wp2_with fail
  have hit := Walk1_stops (n + 2) s (w.heap.size + 1) w.heap.size ((w.alloc (.cells #[.int .i64 0] 3)).alloc (.cells #[.string s] 9)) (by omega) ((hT.alloc _).alloc _) hT.lt.2 (by simp; omega) (by simp)
  refine wpIn_rangeFunc_ownH (α := Clu s) (n := n + 3) rfl (by omega) (encs := cvals s) (Kp := KeepB w.heap.size (w.heap.size + 1)) (gf := 139) (lb := #[.pointer (some ⟨w.heap.size + 1, 0, none⟩)]) rfl trivial (enters_of Tryz.func139 (by kernel_rfl) rfl)
    hit KeepB.trans (KeepB.put (by simp; omega) (by simp)) (Below.refl _ _) (fun _ => rfl)
    (fun pre W => W.heap[w.heap.size]? = some (.cells #[.int .i64 (cellsOf s (cl1 pre))] 3 (0, 0)) ∧ Below w.heap.size w W ∧ w.heap.size + 1 < W.heap.size) (fun _ _ _ => False) ?hI (fun _ => own_false _) ?h0
    (CellsAx s w) ?hAx ?hassign ?hbody ?hdone ?hstop
  case hI =>
    refine OwnFrom.and (own_block _ _ (fun pre : List (Clu s) => #[.int .i64 (cellsOf s (cl1 pre))]) 3 (0, 0)) (OwnFrom.and (ownFrom_below (Nat.le_refl _) (by simp; omega)) ?_)
    intro s X Y row hs hg hr
    have := hg.size; omega
  case h0 => exact ⟨block_old _ (alloc_get _ _), below_alloc (below_alloc (Below.refl _ _) _) _, by simp⟩
  case hAx =>
    intro x a' u X Y row ⟨b, h1, h2, h3⟩ hg hr
    exact ⟨b, h1, own_block _ b (fun _ : Unit => _) _ _ () X Y row h2 hg hr, h3⟩
  case hassign =>
    intro l pre x W K ⟨hb, hB, hz⟩ hK
    have hBs := hB.size
    simp [cvals, cval]
    gi_wp2
    exact hK _ _ (keeps_alloc (KeepsFrom.refl _ _) _) ((KeepB.refl _ _ _).alloc (by omega) (by omega) _) ⟨block_old _ hb, hB.alloc (by omega) _, by simp; omega⟩ ⟨W.heap.size, hz, alloc_get _ _, rfl⟩
  case hbody =>
    rintro l pre x a' W hl ⟨r, hr⟩ ⟨hb, hB, hz⟩ ⟨b, hb1, hb2, rfl⟩ hlt
    have hc := cell_of_block hb 0
    have hf := frozen_of_block hb 0
    have hc3 : W.cell? ⟨b, 3, none⟩ = some (.int .i64 (mcel s x.1.1)) := cell_of_block hb2 3
    simp at hc
    have hm := mcel_le s x.1.1
    have hcl := cellsOf_le s (cl1 pre)
    rw [cl1_length] at hcl
    have hsn := cellsOf_snoc s (cl1 pre) x.1
    rw [← cl1_snoc] at hsn
    generalize cellsOf s (cl1 pre) = c1 at *
    generalize mcel s x.1.1 = c0 at *
    have HS := Lib.hid hsn
    clear hsn
    gi_wp2
    refine ⟨keeps_set (KeepsFrom.refl _ _) _ _, (KeepB.refl _ _ _).set (p := ⟨w.heap.size, 0, none⟩) (Nat.le_refl _) (by simp) _, ?_, hB.setCell (Nat.le_refl _) _, by simpa using hz⟩
    rw [HS.out]
    have := set_block hb 0 (.int .i64 (c1 + c0))
    simpa using this
  case hdone =>
    rintro D ys W hD hy ⟨hb, hB, hz⟩ hK
    have hc := cell_of_block hb 0
    simp at hc
    rw [hy] at hc
    clear hy
    gi_wp2
    refine ⟨by simp, .inl ⟨_, _, rfl, run_takeDeferred hK, ?_⟩⟩
    exact ⟨_, results_tmp (t := 2) rfl _ _ _, (show Ending.returned (.int .i64 (cellsOf s (clist s))) = _ from rfl), hB.trans (belowK_b (w := w) (Nat.le_refl _) W D _ _ (by simp at hD; omega) hK rfl rfl)⟩
  case hstop =>
    intro D c pre W _ _ h _
    exact h.elim
theorem Cells3_any (s : ByteArray) (w : World) (hs : s.size ≤ 1152921504606846976) (hT : Tabs w) :
    Calls Tryz.prog 276 #[.string s] w fun e w' => e = .returned (.int .i64 (cellsOf s (clist s))) ∧ Below w.heap.size w w' := callsIn_wide.1 (Cells_in 0 s w hs hT)
end Go.Proofs.YtmelgecjaonbbaaGreatDoor
namespace Go.Proofs.YtmelgecjaonbbaaGreatDoor
open Go.RowKit Go.Bod

theorem head_any (s : ByteArray) (w : World) (hs : s.size ≤ 1152921504606846976) :
    Calls Tryz.prog 278 #[.string s] w fun e w' => e = .returned (.string (headOf s)) ∧ w = w' := by
  have h : headOf s = s.extract 0 (min (s.size : Int) 16).toNat := by unfold headOf; congr 1; omega
  generalize headOf s = r at *
  have H := Lib.hid h
  clear h
  go_enter Tryz.func278, Tryz.ntmps278
  go_wp2
  go_ret
  exact ⟨by rw [H.out]; rfl, rfl⟩
theorem tail_any (s : ByteArray) (w : World) (hs : s.size ≤ 1152921504606846976) :
    Calls Tryz.prog 279 #[.string s] w fun e w' => e = .returned (.string (tailOf s)) ∧ w = w' := by
  have h : tailOf s = s.extract ((s.size : Int) - min (s.size : Int) 16).toNat s.size := by unfold tailOf; congr 1; omega
  generalize tailOf s = r at *
  have H := Lib.hid h
  clear h
  go_enter Tryz.func279, Tryz.ntmps279
  go_wp2
  go_ret
  exact ⟨by rw [H.out]; rfl, rfl⟩
theorem below_iter (w : World) (s : ByteArray) (pos : Nat) : Below w.heap.size w (w.iter s pos) := below_alloc (Below.refl _ _) _
theorem uCount_any (s : ByteArray) (w : World) (hs : s.size ≤ 1152921504606846976) :
    Calls Tryz.prog 274 #[.string s] w fun e w' => e = .returned (.int .i64 (Lib.runeCount s)) ∧ Below w.heap.size w w' := by
  go_enter Tryz.func274, Tryz.ntmps274
  go_wp2_with fail
  refine (Tryz.utf8_RuneCountInString s _ (by omega)).mono ?_
  rintro e w' ⟨rfl, pos, rfl⟩
  go_wp2
  go_ret
  exact ⟨rfl, below_iter _ _ _⟩

set_option maxRecDepth 100000 in
theorem Measure_any (s : ByteArray) (w : World) (hs : s.size ≤ 1152921504606846976) (hT : Tabs w) :
    Calls Tryz.prog 259 #[.string s] w fun e w' => e = .returned (.agg (smVals (measure s))) ∧ Below w.heap.size w w' := by
  have h1 := fun w => uCount_any s w hs
  have h2 := fun w hT => Count_any s w (by omega) hT
  have h3 := fun w hT => Cells3_any s w hs hT
  have h4 := fun w => Tryz.strings_Count_one s 10 w
  have h5 := fun w => head_any s w hs
  have h6 := fun w => tail_any s w hs
  have hm : smVals (measure s) = #[.int .i64 s.size, .int .i64 (Lib.runeCount s), .int .i64 (clist s).length, .int .i64 (cellsOf s (clist s)), .int .i64 (nls s), .string (headOf s), .string (tailOf s)] := rfl
  rw [hm]
  clear hm
  have h4' : ∀ w, Calls Tryz.prog 277 #[.string s, .string ⟨#[10]⟩] w fun e w' => e = .returned (.int .i64 (nls s)) ∧ w = w' := fun w => (h4 w).mono fun e w' h => ⟨h.1, h.2.symm⟩
  clear h4
  generalize Lib.runeCount s = a1 at *
  generalize (clist s).length = a2 at *
  generalize cellsOf s (clist s) = a3 at *
  generalize nls s = a4 at *
  generalize headOf s = a5 at *
  generalize tailOf s = a6 at *
  have H1 := Lib.hid h1
  have H2 := Lib.hid h2
  have H3 := Lib.hid h3
  have H4 := Lib.hid h4'
  have H5 := Lib.hid h5
  have H6 := Lib.hid h6
  clear h1 h2 h3 h4' h5 h6
  go_enter Tryz.func259, Tryz.ntmps259
  go_wp2_with fail
  refine (H1.out _).mono ?_
  rintro e w1 ⟨rfl, hb1⟩
  go_wp2_with fail
  refine (H2.out _ ((hT.alloc _).of hb1)).mono ?_
  rintro e w2 ⟨rfl, hb2⟩
  have hb2 := below_from hb1 hb2
  go_wp2_with fail
  refine (H3.out _ ((hT.alloc _).of hb2)).mono ?_
  rintro e w3 ⟨rfl, hb3⟩
  have hb3 := below_from hb2 hb3
  go_wp2_with fail
  refine (H4.out _).mono ?_
  rintro e w4 ⟨rfl, rfl⟩
  go_wp2_with fail
  refine (H5.out _).mono ?_
  rintro e w5 ⟨rfl, rfl⟩
  go_wp2_with fail
  refine (H6.out _).mono ?_
  rintro e w6 ⟨rfl, rfl⟩
  obtain ⟨hc, hf⟩ := bcell hb3
  have hz : w.heap.size < w3.heap.size := by have := hb3.size; simp at this; omega
  go_wp2
  refine bodyPost_ret (v := .agg #[.int .i64 s.size, .int .i64 a1, .int .i64 a2, .int .i64 a3, .int .i64 a4, .string a5, .string a6]) (by simp [results, Tryz.results259, go_sem, hc]) rfl ⟨rfl, ?_⟩
  have hB := below_of_alloc hb3
  repeat' (first | (with_reducible exact hB) | (with_reducible refine Below.setCell ?_ ?_ _) | (exact Nat.le_refl _))
end Go.Proofs.YtmelgecjaonbbaaGreatDoor
namespace Go.Bod
open Go.RowKit
variable {P : Program}

/-- The cells of a row of bytes. -/
def rowOf (r : ByteArray) : Array Value := r.data.map fun b => .int .u8 b.toNat
def zerosB (k : Nat) : ByteArray := ⟨Array.replicate k 0⟩
theorem rowOf_size (r : ByteArray) : (rowOf r).size = r.size := by unfold rowOf; rw [Array.size_map]; rfl
theorem rowOf_get (r : ByteArray) (i : Nat) (h : i < r.size) : (rowOf r)[i]? = some (.int .u8 (r[i]).toNat) := by
  have h' : i < r.data.size := h
  unfold rowOf
  rw [Array.getElem?_map, Array.getElem?_eq_getElem h']
  rfl
theorem rowOf_append (r q : ByteArray) : rowOf (r ++ q) = rowOf r ++ rowOf q := by unfold rowOf; rw [ByteArray.data_append, Array.map_append]
theorem rowOf_extract (r : ByteArray) (a b : Nat) : rowOf (r.extract a b) = (rowOf r).extract a b := by
  apply Array.ext'
  simp [rowOf, ByteArray.data_extract, List.extract_eq_take_drop, List.map_take, List.map_drop]
theorem zerosB_size (k : Nat) : (zerosB k).size = k := by simp [zerosB, ByteArray.size]
theorem made_row (k : Nat) : madeCells (Value.int .u8 0).cells k = rowOf (zerosB k) := by
  apply Array.ext
  · rw [size_madeCells, rowOf_size, zerosB_size]
  · intro i h1 h2
    simp [madeCells, rowOf, zerosB, Value.cells, Nat.mod_one]
theorem rowOf_one (r : ByteArray) : ∀ v ∈ (rowOf r).toList, v.oneCell' = true := by
  intro v hv
  simp only [rowOf, Array.toList_map, List.mem_map] at hv
  obtain ⟨b, _, rfl⟩ := hv
  rfl

theorem run_make_bytes (w : World) (t e : TypeId) (i : TypeInfo) (ht : P.underlying t = some (.slice e)) (hi : P.info? e = some i) (hz : i.zero = some (.int .u8 0)) (hsz : i.size = 1) (hby : i.bytes = 1) (k : Int) (h0 : 0 ≤ k) (hk : k ≤ 281474976710656) :
    (Instr.makeSlice t (.int .i64 k) (.int .i64 k)).run P w = .ok (.slice (some ⟨w.heap.size, 0, none⟩) k.toNat k.toNat) (w.alloc (.cells (rowOf (zerosB k.toNat)) e)) := by
  rw [run_make w t e i _ ht hi hz .i64 .i64 k k h0 (Int.le_refl _) (by rw [hby]; omega) (by omega), hsz, Nat.mul_one, made_row]

theorem run_copy_str (w : World) (dT sT ty elem : TypeId) (g o dLen dCap : Nat) (r s : ByteArray) (hu : P.underlying dT = some (.slice elem)) (hs : (P.info? elem).map (·.size) = some 1)
    (hg : w.heap[g]? = some (.cells (rowOf r) elem (0, 0))) (hfit : o + min s.size dLen ≤ r.size) :
    (Builtin.copy_ #[dT, sT] ty #[.slice (some ⟨g, o, none⟩) dLen dCap, .string s]).run P w =
      .ok (goInt (min s.size dLen)) (w.setRow g (rowOf (r.extract 0 o ++ s.extract 0 (min s.size dLen) ++ r.extract (o + min s.size dLen) r.size))) := by
  have hn : ((rowOf (s.extract 0 (min s.size dLen))).toList).length = min s.size dLen := by
    rw [Array.length_toList, rowOf_size, size_extract]; omega
  have hst := run_storeCells_at P g o elem (rowOf (s.extract 0 (min s.size dLen))).toList 0 (rowOf r) w hg (by rw [hn, rowOf_size]; omega) (rowOf_one _)
  have e : (rowOf r).toList.take (o + 0) ++ (rowOf (s.extract 0 (min s.size dLen))).toList ++ (rowOf r).toList.drop (o + 0 + (rowOf (s.extract 0 (min s.size dLen))).toList.length) =
      (rowOf (r.extract 0 o ++ s.extract 0 (min s.size dLen) ++ r.extract (o + min s.size dLen) r.size)).toList := by
    rw [hn, rowOf_append, rowOf_append, rowOf_extract r, rowOf_extract r]
    simp [Array.toList_extract, List.extract_eq_take_drop]
    rw [List.take_of_length_le (by simp [rowOf_size]), ← rowOf_size]
  rw [e, Array.toArray_toList] at hst
  cases hq : P.info? elem with
  | none => simp [hq] at hs
  | some i =>
    have hi : i.size = 1 := by simpa [hq] using hs
    have hm : Nat.min s.size dLen = min s.size dLen := rfl
    simp [Builtin.copy_, run_underlying hu, Builtin.lenOf, Builtin.firstCells, sizeOf, typeInfo, hq, hi, hm]
    have e2 : List.take (min s.size dLen) (List.map (fun b : UInt8 => Value.int .u8 b.toNat) s.data.toList) = (rowOf (s.extract 0 (min s.size dLen))).toList := by
      simp [rowOf, ByteArray.data_extract, List.extract_eq_take_drop]
    rw [e2, hst]
    simp only [Result.andThen]
    congr 2
    omega
theorem nums_back (r : ByteArray) : strOfNums (r.data.toList.map fun c => (c.toNat : Int)) = r := by
  unfold strOfNums
  rw [List.map_map]
  have : ((fun n : Int => UInt8.ofNat n.toNat) ∘ fun c : UInt8 => (c.toNat : Int)) = id := by
    funext c; simp
  rw [this, List.map_id]
theorem run_conv_bytes (w : World) (src e dst : TypeId) (hs : P.underlying src = some (.slice e)) (he : P.underlying e = some (.int .u8)) (hd : P.underlying dst = some .string) (b off len cap : Nat) (r : ByteArray) (t : TypeId) (fz : Nat × Nat)
    (hb : w.heap[b]? = some (.cells (rowOf r) t fz)) (hl : off + len ≤ r.size) :
    (convert src dst (.slice (some ⟨b, off, none⟩) len cap)).run P w = .ok (.string (r.extract off (off + len))) w := by
  have h := run_convert_bytes_arg (P := P) w src e hs he b off len cap ((r.extract off (off + len)).data.toList.map fun c => (c.toNat : Int)) (by
    rw [List.length_map, Array.length_toList]
    show (r.extract off (off + len)).size = len
    rw [size_extract]; omega) (fun i hi => by
    rw [cell_of_block hb, rowOf_get r _ (by omega)]
    have hsz : i < (r.extract off (off + len)).size := by rw [size_extract]; omega
    have hsz' : i < (r.extract off (off + len)).data.toList.length := by rw [Array.length_toList]; exact hsz
    rw [List.getD_eq_getElem?_getD, List.getElem?_map, List.getElem?_eq_getElem hsz']
    simp only [Option.map_some, Option.getD_some]
    congr 3
    have := ByteArray.getElem_extract (b := r) (start := off) (stop := off + len) (i := i) hsz
    rw [← this, Array.getElem_toList]; rfl) dst hd
  rw [h, nums_back]
end Go.Bod
namespace Go.Bod
open Go.RowKit
/-- Every block that was there is as it was, but those of S. -/
structure Mods (S : Nat → Prop) (w w' : World) : Prop where
  os : w'.os = w.os
  tape : w'.tape = w.tape
  output : w'.output = w.output
  size : w.heap.size ≤ w'.heap.size
  block : ∀ k, k < w.heap.size → ¬ S k → w'.heap[k]? = w.heap[k]?
theorem Mods.refl (S : Nat → Prop) (w : World) : Mods S w w := ⟨rfl, rfl, rfl, Nat.le_refl _, fun _ _ _ => rfl⟩
theorem Mods.of_below {S : Nat → Prop} {w w' : World} (h : Below w.heap.size w w') : Mods S w w' := ⟨h.os, h.tape, h.output, h.size, fun k hk _ => h.block k hk⟩
theorem Mods.trans {S : Nat → Prop} {a b c : World} (h : Mods S a b) (k : Mods S b c) : Mods S a c :=
  ⟨k.os.trans h.os, k.tape.trans h.tape, k.output.trans h.output, Nat.le_trans h.size k.size, fun i hi hS => (k.block i (by have := h.size; omega) hS).trans (h.block i hi hS)⟩
theorem Mods.mono {S T : Nat → Prop} {a b : World} (h : Mods S a b) (hST : ∀ k, k < a.heap.size → S k → T k) : Mods T a b :=
  ⟨h.os, h.tape, h.output, h.size, fun k hk hT => h.block k hk (fun hS => hT (hST k hk hS))⟩
theorem Mods.below {a b : World} (h : Mods (fun _ => False) a b) : Below a.heap.size a b := ⟨h.os, h.tape, h.output, h.size, fun k hk => h.block k hk (fun hf => hf)⟩
/-- Blocks that were made since do not count. -/
theorem Mods.trans_new {S T : Nat → Prop} {a b c : World} (h : Mods S a b) (k : Mods T b c) (hT : ∀ i, i < a.heap.size → T i → S i) : Mods S a c :=
  ⟨k.os.trans h.os, k.tape.trans h.tape, k.output.trans h.output, Nat.le_trans h.size k.size, fun i hi hS => (k.block i (by have := h.size; omega) (fun ht => hS (hT i hi ht))).trans (h.block i hi hS)⟩
theorem Mods.alloc {S : Nat → Prop} {a w : World} (h : Mods S a w) (o : Obj) : Mods S a (w.alloc o) := h.trans (Mods.of_below ((Below.refl _ _).alloc (Nat.le_refl _) o))
theorem Mods.drew {S : Nat → Prop} {a w : World} (h : Mods S a w) : Mods S a w.drew := h.trans (Mods.of_below (Below.refl _ _).drew)
theorem Mods.drewN {S : Nat → Prop} {a w : World} (h : Mods S a w) (n : Nat) : Mods S a (w.drewN n) := h.trans (Mods.of_below (below_drewN (Below.refl _ _) n))
theorem Mods.setCell {S : Nat → Prop} {a w : World} (h : Mods S a w) (p : Addr) (hp : a.heap.size ≤ p.block ∨ S p.block) (v : Value) : Mods S a (w.setCell p v) :=
  ⟨h.os, h.tape, h.output, by simpa [World.setCell] using h.size, fun k hk hS => (Below.heap_setCell _ _ _ _ (fun e => by rcases hp with hp | hp; omega; exact hS (e ▸ hp))).trans (h.block k hk hS)⟩
theorem Mods.setRow {S : Nat → Prop} {a w : World} (h : Mods S a w) (g : Nat) (hp : a.heap.size ≤ g ∨ S g) (cs : Array Value) : Mods S a (w.setRow g cs) :=
  ⟨h.os, h.tape, h.output, by simpa [World.setRow] using h.size, fun k hk hS => (setRow_other w g k cs (fun e => by rcases hp with hp | hp; omega; exact hS (e ▸ hp))).trans (h.block k hk hS)⟩
theorem Mods.cell {S : Nat → Prop} {w w' : World} (h : Mods S w w') {a : Addr} {v : Value} (hc : w.cell? a = some v) (hS : ¬ S a.block) : w'.cell? a = some v := by
  rw [World.cell?_of_block (h.block a.block (World.block_lt_of_cell? _ _ hc) hS)]; exact hc
theorem Mods.blk {S : Nat → Prop} {w w' : World} (h : Mods S w w') {b : Nat} {o : Obj} (hc : w.heap[b]? = some o) (hS : ¬ S b) : w'.heap[b]? = some o := by
  rw [h.block b (block_lt hc) hS]; exact hc
theorem setRow_new (w : World) (cs cs' : Array Value) (t : TypeId) : (w.alloc (.cells cs t)).setRow w.heap.size cs' = w.alloc (.cells cs' t) := by
  unfold World.setRow World.alloc
  congr 1
  apply Array.ext
  · simp
  · intro i h1 h2
    simp only [Array.getElem_modify, Array.getElem_push]
    by_cases h : i < w.heap.size
    · rw [if_neg (by omega)]; simp [h]
    · have : i = w.heap.size := by simp at h1; omega
      subst this; simp
end Go.Bod
namespace Go.Bod
theorem ba_ext {a b : ByteArray} (h : a.data.toList = b.data.toList) : a = b := by
  cases a; cases b; congr 1; exact Array.ext' h
theorem size_toList (a : ByteArray) : a.data.toList.length = a.size := by rw [Array.length_toList]; rfl
theorem toList_append (a b : ByteArray) : (a ++ b).data.toList = a.data.toList ++ b.data.toList := by rw [ByteArray.data_append, Array.toList_append]
theorem toList_extract (a : ByteArray) (i j : Nat) : (a.extract i j).data.toList = (a.data.toList.take j).drop i := by
  rw [ByteArray.data_extract, Array.toList_extract, List.extract_eq_take_drop, List.drop_take]
theorem toList_zeros (k : Nat) : (zerosB k).data.toList = List.replicate k 0 := by simp [zerosB]
theorem size_append (a b : ByteArray) : (a ++ b).size = a.size + b.size := by simp
theorem lay_one (a : ByteArray) (k : Nat) (h : a.size ≤ k) : (zerosB k).extract 0 0 ++ a.extract 0 (min a.size k) ++ (zerosB k).extract (0 + min a.size k) (zerosB k).size = a ++ zerosB (k - a.size) := by
  apply ba_ext
  rw [Nat.min_eq_left h]
  simp only [toList_append, toList_extract, toList_zeros, zerosB_size]
  simp [List.take_of_length_le (Nat.le_of_eq (size_toList a))]
theorem lay_two (a c : ByteArray) (k : Nat) (h : a.size + c.size ≤ k) :
    (a ++ zerosB (k - a.size)).extract 0 (k - c.size) ++ c.extract 0 (min c.size c.size) ++ (a ++ zerosB (k - a.size)).extract (k - c.size + min c.size c.size) (a ++ zerosB (k - a.size)).size = a ++ zerosB (k - a.size - c.size) ++ c := by
  apply ba_ext
  rw [Nat.min_self, size_append, zerosB_size]
  simp only [toList_append, toList_extract, toList_zeros, List.drop_zero]
  rw [List.take_of_length_le (l := c.data.toList) (Nat.le_of_eq (size_toList c))]
  have ha := size_toList a
  rw [List.take_append, List.take_of_length_le (by omega), List.take_replicate, show k - c.size + c.size = k by omega, List.take_of_length_le (by first | (simp; done) | (simp; omega)), List.drop_of_length_le (by first | (simp; done) | (simp; omega))]
  rw [ha, List.append_nil]
  congr 3
  omega
theorem lay_none (r : ByteArray) (s : ByteArray) (h : s.size = 0) : r.extract 0 0 ++ s.extract 0 (min s.size 0) ++ r.extract (0 + min s.size 0) r.size = r := by
  apply ba_ext
  simp only [toList_append, toList_extract]
  simp [List.take_of_length_le (Nat.le_of_eq (size_toList r))]
theorem empty_of_size {s : ByteArray} (h : s.size = 0) : s = ⟨#[]⟩ := by
  apply ba_ext
  exact List.eq_nil_of_length_eq_zero (by rw [size_toList]; exact h)
end Go.Bod
namespace Go.Proofs.YtmelgecjaonbbaaGreatDoor
open Go.RowKit Go.Bod

theorem info5 : (Tryz.prog.info? 5).map (fun i => (i.zero, i.size, i.bytes)) = some (some (.int .u8 0), 1, 1) := by kernel_rfl
theorem made5 (w : World) (k : Nat) (hk : k ≤ 4294967296) : (Instr.makeSlice 211 (.int .i64 k) (.int .i64 k)).run Tryz.prog w = .ok (.slice (some ⟨w.heap.size, 0, none⟩) k k) (w.alloc (.cells (rowOf (zerosB k)) 5 (0, 0))) := by
  obtain ⟨i0, hi, hz0, hz1, hz2⟩ := info_parts info5
  have := run_make_bytes (P := Tryz.prog) w 211 5 i0 Tryz.underlying211 hi hz0 hz1 hz2 k (by omega) (by omega)
  simpa using this
theorem copy5 (w : World) (g o dLen dCap : Nat) (r s : ByteArray) (hg : w.heap[g]? = some (.cells (rowOf r) 5 (0, 0))) (hfit : o + min s.size dLen ≤ r.size) :
    (Builtin.copy_ #[211, 9] 3 #[.slice (some ⟨g, o, none⟩) dLen dCap, .string s]).run Tryz.prog w = .ok (.int .i64 (min (s.size : Int) dLen)) (w.setRow g (rowOf (r.extract 0 o ++ s.extract 0 (min s.size dLen) ++ r.extract (o + min s.size dLen) r.size))) := by
  rw [run_copy_str (P := Tryz.prog) w 211 9 3 5 g o dLen dCap r s Tryz.underlying211 (by kernel_rfl) hg hfit]
  rfl
theorem conv5 (w : World) (b off len cap : Nat) (r : ByteArray) (t : TypeId) (fz : Nat × Nat) (hb : w.heap[b]? = some (.cells (rowOf r) t fz)) (hl : off + len ≤ r.size) :
    (convert 211 9 (.slice (some ⟨b, off, none⟩) len cap)).run Tryz.prog w = .ok (.string (r.extract off (off + len))) w :=
  run_conv_bytes w 211 5 9 Tryz.underlying211 Tryz.underlying5 Tryz.underlying9 b off len cap r t fz hb hl

/-- What 'lay' leaves: a new array, the gap between the two texts. -/
def LayPost (b : Nat) (a c : ByteArray) (k : Nat) (x3 : Value) (w w' : World) : Prop :=
  w'.heap[b]? = some (.cells #[.slice (some ⟨w.heap.size, 0, none⟩) k k, .int .i64 a.size, .int .i64 ((k : Int) - c.size), x3] 273 (0, 0)) ∧
  w'.heap[w.heap.size]? = some (.cells (rowOf (a ++ zerosB (k - a.size - c.size) ++ c)) 5 (0, 0)) ∧ Mods (fun x => x = b) w w'

theorem lay_end {b : Nat} {a c : ByteArray} {k : Nat} {x0 x1 x2 x3 : Value} {w : World} (hb : w.heap[b]? = some (.cells #[x0, x1, x2, x3] 273 (0, 0))) :
    LayPost b a c k x3 w ((((w.setCell ⟨b, 0, none⟩ (.slice (some ⟨w.heap.size, 0, none⟩) k k)).setCell ⟨b, 1, none⟩ (.int .i64 a.size)).setCell ⟨b, 2, none⟩ (.int .i64 ((k : Int) - c.size))).alloc (.cells (rowOf (a ++ zerosB (k - a.size - c.size) ++ c)) 5)) := by
  have hlt := block_lt hb
  refine ⟨?_, ?_, ?_⟩
  · exact block_old _ (set_block (set_block (set_block hb 0 _) 1 _) 2 _)
  · have hh : (((w.setCell ⟨b, 0, none⟩ (.slice (some ⟨w.heap.size, 0, none⟩) k k)).setCell ⟨b, 1, none⟩ (.int .i64 a.size)).setCell ⟨b, 2, none⟩ (.int .i64 ((k : Int) - c.size))).heap.size = w.heap.size := by simp
    have := alloc_get (((w.setCell ⟨b, 0, none⟩ (.slice (some ⟨w.heap.size, 0, none⟩) k k)).setCell ⟨b, 1, none⟩ (.int .i64 a.size)).setCell ⟨b, 2, none⟩ (.int .i64 ((k : Int) - c.size))) (.cells (rowOf (a ++ zerosB (k - a.size - c.size) ++ c)) 5)
    rw [hh] at this
    exact this
  · exact (((Mods.refl (fun x => x = b) w).setCell ⟨b, 0, none⟩ (.inr rfl) _).setCell ⟨b, 1, none⟩ (.inr rfl) _).setCell ⟨b, 2, none⟩ (.inr rfl) _ |>.alloc _

set_option maxRecDepth 100000 in
theorem lay_any (b : Nat) (a c : ByteArray) (k : Nat) (x0 x1 x2 x3 : Value) (w : World) (hk : a.size + c.size ≤ k) (hk2 : k ≤ 4294967296)
    (hb : w.heap[b]? = some (.cells #[x0, x1, x2, x3] 273 (0, 0))) :
    Calls Tryz.prog 217 #[.pointer (some ⟨b, 0, none⟩), .string a, .string c, .int .i64 k] w fun e w' => e = .returned (.tuple #[]) ∧ LayPost b a c k x3 w w' := by
  have hfin := Lib.hid (lay_end (a := a) (c := c) (k := k) hb)
  have hlt := block_lt hb
  have d0 : w.cell? ⟨b, 0, none⟩ = some x0 := cell_of_block hb 0
  have d1 : w.cell? ⟨b, 1, none⟩ = some x1 := cell_of_block hb 1
  have d2 : w.cell? ⟨b, 2, none⟩ = some x2 := cell_of_block hb 2
  have k0 := frozen_of_block hb
  have hmk := Lib.hid (fun w => made5 w k hk2)
  have hc1 : (Builtin.copy_ #[211, 9] 3 #[.slice (some ⟨w.heap.size, 0, none⟩) k k, .string a]).run Tryz.prog (w.alloc (.cells (rowOf (zerosB k)) 5)) = .ok (.int .i64 (min (a.size : Int) k)) (w.alloc (.cells (rowOf (a ++ zerosB (k - a.size))) 5)) := by
    rw [copy5 _ _ 0 k k (zerosB k) a (alloc_get _ _) (by rw [zerosB_size]; omega), setRow_new, lay_one a k (by omega)]
  have HC1 := Lib.hid hc1
  have HB := Lib.hid hb
  clear hc1 hb
  by_cases hz : c.size = 0
  · obtain rfl := empty_of_size hz
    have hc2 : (Builtin.copy_ #[211, 9] 3 #[.slice (some ⟨w.heap.size, 0, none⟩) 0 0, .string ⟨#[]⟩]).run Tryz.prog (w.alloc (.cells (rowOf (a ++ zerosB (k - a.size))) 5)) = .ok (.int .i64 0) (w.alloc (.cells (rowOf (a ++ zerosB (k - a.size))) 5)) := by
      rw [copy5 _ _ 0 0 0 (a ++ zerosB (k - a.size)) ⟨#[]⟩ (alloc_get _ _) (by simp), setRow_new, lay_none _ _ rfl]
      rfl
    have HC2 := Lib.hid hc2
    have he : (a ++ zerosB (k - a.size - (⟨#[]⟩ : ByteArray).size) ++ ⟨#[]⟩ : ByteArray) = a ++ zerosB (k - a.size) := by
      apply ba_ext; simp only [toList_append]; exact List.append_nil _
    have hfin' := hfin.out
    rw [he] at hfin'
    have HF := Lib.hid hfin'
    clear hc2 he hfin'
    have hmk := hmk.out
    have hc1 := HC1.out
    have hc2 := HC2.out
    go_enter Tryz.func217, Tryz.ntmps217
    go_wp2_with fail
    go_end0
    exact ⟨rfl, HF.out⟩
  · have hz' : 0 < c.size := by omega
    have hc2 : (Builtin.copy_ #[211, 9] 3 #[.slice (some ⟨w.heap.size, k - c.size, none⟩) (k - (k - c.size)) (k - (k - c.size)), .string c]).run Tryz.prog (w.alloc (.cells (rowOf (a ++ zerosB (k - a.size))) 5)) = .ok (.int .i64 c.size) (w.alloc (.cells (rowOf (a ++ zerosB (k - a.size - c.size) ++ c)) 5)) := by
      rw [show k - (k - c.size) = c.size by omega, copy5 _ _ (k - c.size) c.size c.size (a ++ zerosB (k - a.size)) c (alloc_get _ _) (by rw [size_append, zerosB_size, Nat.min_self]; omega), setRow_new, lay_two a c k hk, Int.min_self]
    have HC2 := Lib.hid hc2
    clear hc2 hz
    have hmk := hmk.out
    have hc1 := HC1.out
    have hc2 := HC2.out
    go_enter Tryz.func217, Tryz.ntmps217
    go_wp2_with fail

    go_end0
    exact ⟨rfl, hfin.out⟩
end Go.Proofs.YtmelgecjaonbbaaGreatDoor
namespace Go.Bod
theorem get_extract (a : ByteArray) (i j n : Nat) : (a.extract i j).data.toList[n]? = if i + n < j then a.data.toList[i + n]? else none := by
  rw [toList_extract, List.getElem?_drop, List.getElem?_take]
theorem get_append (a b : ByteArray) (n : Nat) : (a ++ b).data.toList[n]? = if n < a.size then a.data.toList[n]? else b.data.toList[n - a.size]? := by
  rw [toList_append, List.getElem?_append, size_toList]
theorem get_none (a : ByteArray) (n : Nat) (h : a.size ≤ n) : a.data.toList[n]? = none := List.getElem?_eq_none (by rw [size_toList]; exact h)
theorem ba_get {a b : ByteArray} (h : ∀ n : Nat, a.data.toList[n]? = b.data.toList[n]?) : a = b := ba_ext (List.ext_getElem? h)
theorem size_ext (a : ByteArray) (i j : Nat) : (a.extract i j).size = min j a.size - i := by simp

/-- The text of an array with a gap. -/
def gtext (r : ByteArray) (a z : Nat) : ByteArray := r.extract 0 a ++ r.extract z r.size
theorem gtext_size {r : ByteArray} {a z : Nat} (h1 : a ≤ z) (h2 : z ≤ r.size) : (gtext r a z).size = r.size - (z - a) := by
  unfold gtext; rw [size_append, size_ext, size_ext]; omega
theorem gap_low {r : ByteArray} {a z f t : Nat} (h1 : a ≤ z) (h2 : z ≤ r.size) (ht : t ≤ a) : (gtext r a z).extract f t = r.extract f t := by
  apply ba_get; intro n
  unfold gtext
  simp only [get_extract, get_append, size_ext]
  repeat' split
  all_goals first | rfl | omega | (congr 1; omega) | skip
theorem gap_high {r : ByteArray} {a z f t : Nat} (h1 : a ≤ z) (h2 : z ≤ r.size) (hf : a ≤ f) (ht : t ≤ (gtext r a z).size) : (gtext r a z).extract f t = r.extract (f + (z - a)) (t + (z - a)) := by
  rw [gtext_size h1 h2] at ht
  apply ba_get; intro n
  unfold gtext
  simp only [get_extract, get_append, size_ext]
  repeat' split
  all_goals first | rfl | omega | (congr 1; omega) | skip
theorem gap_mid {r : ByteArray} {a z f t : Nat} (h1 : a ≤ z) (h2 : z ≤ r.size) (hf : f ≤ a) (hat : a ≤ t) (ht : t ≤ (gtext r a z).size) : (gtext r a z).extract f t = r.extract f a ++ r.extract z (t + (z - a)) := by
  rw [gtext_size h1 h2] at ht
  apply ba_get; intro n
  unfold gtext
  simp only [get_extract, get_append, size_ext]
  repeat' split
  all_goals first | rfl | omega | (congr 1; omega) | skip
theorem gtext_lay (a c : ByteArray) (k : Nat) (h : a.size + c.size ≤ k) : gtext (a ++ zerosB (k - a.size - c.size) ++ c) a.size (k - c.size) = a ++ c := by
  apply ba_get; intro n
  unfold gtext
  simp only [get_extract, get_append, size_ext, size_append, zerosB_size]
  repeat' split
  all_goals first | rfl | omega | (congr 1; omega) | skip
  all_goals (symm; apply get_none; omega)
theorem append_empty (a : ByteArray) : a ++ (⟨#[]⟩ : ByteArray) = a := by
  apply ba_ext; rw [toList_append]; exact List.append_nil _
theorem extract_all (a : ByteArray) : a.extract 0 a.size = a := by simp
end Go.Bod
