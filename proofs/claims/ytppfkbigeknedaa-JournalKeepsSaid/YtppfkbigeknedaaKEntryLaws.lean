/- An entry's bytes, in plain lists: the program's and the document's. -/
import Derived.Test.YtppfkbigeknedaaKPutLaws
import Derived.Test.YtppfkbigeknedaaKQjournalBytes
import Derived.Test.YtppfkbigeknedaaKQjournalMay
import Derived.Test.YtppfkbigeknedaaKQdunnageref22Record
namespace Go.Proofs.Ytppfkbigeknedaa.Q
open Go.RowKit Go.Proofs.YtppfkbigeknedaaW.PrintWords
set_option linter.unusedVariables false
set_option linter.unusedSimpArgs false
theorem puts_small {n : Int} (h : n < 128) (l : List Int) : puts (n :: l) = n :: puts l := by
  simp only [puts, List.flatMap_cons, vnt]
  rw [if_neg (by omega)]
  rfl
theorem vnt_ne (d : Nat) (n : Int) : vnt d n ≠ [] := by
  cases d with
  | zero => simp [vnt]
  | succ d => unfold vnt; split <;> simp
theorem puts_ne (n : Int) (l : List Int) : puts (n :: l) ≠ [] := by
  simp only [puts, List.flatMap_cons]
  intro h
  exact vnt_ne 9 n (List.append_eq_nil_iff.1 h).1
def entryL (a b : Int) (l : List S130) : List Int :=
  if a = 1 ∧ b = 0 then (if l.length ≤ 40 ∧ l.all okMove = true then 1 :: puts (movesNums l) else []) else if 2 ≤ a ∧ a ≤ 4 ∧ 1 ≤ b ∧ b ≤ 40 ∧ l = [] then [a, b] else []
theorem flat_len (l : List S130) : (l.flatMap moveNums).length = 4 * l.length := by
  induction l with
  | nil => rfl
  | cons a l ih => rw [List.flatMap_cons, List.length_append, ih]; simp [moveNums]; omega
theorem okMove_iff (m : S130) : okMove m = true ↔ (0 ≤ m.f0 ∧ m.f0 ≤ 2147483647) ∧ (0 ≤ m.f1 ∧ m.f1 ≤ 2147483647) ∧ (0 ≤ m.f2 ∧ m.f2 ≤ 2147483647) ∧ (0 ≤ m.f3 ∧ m.f3 ≤ 2147483647) := by
  simp only [okMove, decide_eq_true_eq]
  omega
theorem movesNums_in {l : List S130} (hl : l.length ≤ 40) (h : l.all okMove = true) : ∀ x ∈ movesNums l, inU x := by
  intro x hx
  simp only [movesNums, List.mem_cons, List.mem_flatMap] at hx
  rcases hx with rfl | ⟨m, hm, hx⟩
  · exact ⟨by omega, by omega⟩
  · have := (okMove_iff m).1 (List.all_eq_true.1 h m hm)
    simp only [moveNums, List.mem_cons, List.not_mem_nil, or_false] at hx
    unfold inU
    rcases hx with rfl | rfl | rfl | rfl <;> omega
theorem movesNums_len (l : List S130) : (movesNums l).length = 4 * l.length + 1 := by rw [movesNums, List.length_cons, flat_len]
theorem entryL_len (a b : Int) (l : List S130) : (entryL a b l).length ≤ 2000 := by
  unfold entryL
  split
  · split
    · next h =>
      have h1 := puts_length (movesNums l)
      rw [movesNums_len] at h1
      simp only [List.length_cons]
      omega
    · simp
  · split <;> simp
theorem codec_ev (l : List S130) : Ev (fun k => codec_Moves.f k l) (if l.length ≤ 40 ∧ l.all okMove = true then (puts (movesNums l), none) else ([], some 1)) := by
  by_cases h1 : l.length ≤ 40
  · by_cases h2 : l.all okMove = true
    · rw [if_pos ⟨h1, h2⟩]
      refine Ev.congr (f := fun k => (wire_Put.f k (movesNums l)).bind fun r => some (r, none)) (fun k => ?_) (Ev.bind (wput _ (movesNums_in h1 h2) (by rw [movesNums_len]; omega)) (Ev.now _))
      simp only [codec_Moves.f, movesF]
      rw [if_neg (by omega), if_pos h2]
    · rw [if_neg (fun h => h2 h.2)]
      refine Ev.congr (f := fun _ => some ([], some 1)) (fun k => ?_) (Ev.now _)
      simp only [codec_Moves.f, movesF]
      rw [if_neg (by omega), if_neg h2]
  · rw [if_neg (fun h => h1 h.1)]
    refine Ev.congr (f := fun _ => some ([], some 1)) (fun k => ?_) (Ev.now _)
    simp only [codec_Moves.f, movesF]
    rw [if_pos (by omega)]
theorem W_small {n : Int} (h0 : 0 ≤ n) (h1 : n ≤ 2147483647) : IntKind.u64.wrap n = n := by rw [IntKind.wrap_u64]; omega
theorem entry_ev (a b : Int) (l : List S130) : Ev (fun k => journal_entry.f k a b l) (entryL a b l) := by
  unfold journal_entry.f
  have hj : ∀ q : Bool, q = decide (a = 1 ∧ b = 0) → Ev (fun k => journal_entry.j0 k q a b l) (entryL a b l) := by
    rintro q rfl
    by_cases h : a = 1 ∧ b = 0
    · rw [decide_eq_true h]
      refine Ev.step (f := fun k => (codec_Moves.f k l).bind fun t => if t.2.isNone = true then (wire_Put.f k [1]).bind fun u => if u.length + t.1.length < 140737488355328 then some (u ++ t.1) else none else some []) (fun k => ?_) ?_
      · simp only [journal_entry.j0, if_true]
      · refine Ev.bind (codec_ev l) ?_
        unfold entryL
        rw [if_pos h]
        by_cases h2 : l.length ≤ 40 ∧ l.all okMove = true
        · simp only [if_pos h2]
          have h3 := puts_length (movesNums l)
          rw [movesNums_len] at h3
          refine Ev.congr (f := fun k => (wire_Put.f k [1]).bind fun u => if u.length + (puts (movesNums l)).length < 140737488355328 then some (u ++ puts (movesNums l)) else none) (fun k => by simp) ?_
          refine Ev.bind (wput [1] (by intro x hx; simp at hx; subst hx; exact ⟨by omega, by omega⟩) (by simp)) ?_
          rw [show puts [1] = [1] by rfl, if_pos (by simp; omega)]
          exact Ev.now _
        · simp only [if_neg h2]
          exact Ev.now _
    · rw [decide_eq_false h]
      refine Ev.step (f := fun k => if a ≥ 2 then (if a ≤ 4 then (if b ≥ 1 then (if b ≤ 40 then (if (l.length : Int) = 0 then (wire_Put.f k [IntKind.u64.wrap a, IntKind.u64.wrap b]).bind fun t => some t else some []) else some []) else some []) else some []) else some []) (fun k => ?_) ?_
      · simp only [journal_entry.j0, Bool.false_eq_true, if_false]
      · unfold entryL
        rw [if_neg h]
        by_cases h2 : 2 ≤ a ∧ a ≤ 4 ∧ 1 ≤ b ∧ b ≤ 40 ∧ l = []
        · obtain ⟨g1, g2, g3, g4, g5⟩ := h2
          subst g5
          rw [if_pos ⟨g1, g2, g3, g4, rfl⟩]
          refine Ev.congr (f := fun k => (wire_Put.f k [a, b]).bind fun t => some t) (fun k => ?_) ?_
          · rw [if_pos g1, if_pos g2, if_pos g3, if_pos g4, if_pos (by simp), W_small (by omega) (by omega), W_small (by omega) (by omega)]
          · have hw := wput [a, b] (by intro x hx; simp only [List.mem_cons, List.not_mem_nil, or_false] at hx; unfold inU; rcases hx with rfl | rfl <;> omega) (by simp)
            rw [puts_small (by omega), puts_small (by omega), show puts [] = [] by rfl] at hw
            exact Ev.bind hw (Ev.now _)
        · rw [if_neg h2]
          refine Ev.congr (f := fun _ => some []) (fun k => ?_) (Ev.now _)
          by_cases g1 : a ≥ 2
          · by_cases g2 : a ≤ 4
            · by_cases g3 : b ≥ 1
              · by_cases g4 : b ≤ 40
                · have g5 : ¬ (l.length : Int) = 0 := fun e => h2 ⟨g1, g2, g3, g4, List.eq_nil_of_length_eq_zero (by omega)⟩
                  rw [if_pos g1, if_pos g2, if_pos g3, if_pos g4, if_neg g5]
                · rw [if_pos g1, if_pos g2, if_pos g3, if_neg g4]
              · rw [if_pos g1, if_pos g2, if_neg g3]
            · rw [if_pos g1, if_neg g2]
          · rw [if_neg g1]
  by_cases h : a = 1
  · simp only [if_pos h]
    refine hj _ ?_
    subst h
    by_cases hb : b = 0 <;> simp [hb]
  · simp only [if_neg h]
    exact hj _ (by simp [h])
theorem may_ev (a b : Int) (l : List S130) : Ev (fun k => journal_May.f k a b l) (decide (((entryL a b l).length : Int) > 0)) :=
  Ev.bind (entry_ev a b l) (Ev.now _)
def recordL (a b : Int) (l : List S130) : List Int := puts [((entryL a b l).length : Int)] ++ entryL a b l
theorem len_in (a b : Int) (l : List S130) : ∀ x ∈ [IntKind.u64.wrap ((entryL a b l).length : Int)], inU x := by
  intro x hx
  have := entryL_len a b l
  rw [W_small (by omega) (by omega)] at hx
  simp only [List.mem_cons, List.not_mem_nil, or_false] at hx
  unfold inU
  omega
theorem bytes_ev (a b : Int) (l : List S130) : Ev (fun k => journal_Bytes.f k a b l) (if entryL a b l = [] then ([], some 1) else (recordL a b l, none)) := by
  refine Ev.bind (entry_ev a b l) ?_
  have hl := entryL_len a b l
  by_cases h : entryL a b l = []
  · rw [if_pos h]
    refine Ev.congr (f := fun _ => some ([], some 1)) (fun k => ?_) (Ev.now _)
    rw [if_pos (by rw [h]; rfl)]
  · have h0 : ¬ ((entryL a b l).length : Int) = 0 := fun e => h (List.eq_nil_of_length_eq_zero (by omega))
    simp only [if_neg h0]
    rw [if_neg h]
    have hw := wput _ (len_in a b l) (by simp)
    rw [W_small (by omega) (by omega)] at hw
    have hp := puts_length [((entryL a b l).length : Int)]
    rw [W_small (by omega) (by omega)]
    refine Ev.bind hw ?_
    rw [if_pos (by simp only [List.length_cons, List.length_nil] at hp; omega)]
    exact Ev.now _
end Go.Proofs.Ytppfkbigeknedaa.Q
