/- An entry's bytes, in plain lists: the program's and the document's. -/
import Derived.Test.YtppfkbigeknedaaVPutLaws
import Derived.Test.YtppfkbigeknedaaVQjournalBytes
import Derived.Test.YtppfkbigeknedaaVQjournalMay
import Derived.Test.YtppfkbigeknedaaVQdunnageref22Record
namespace Go.Proofs.Ytppfkbigeknedaa.Q
open Go.RowKit Go.Proofs.YtppfkbigeknedaaW.PrintWords
set_option linter.unusedVariables false
set_option linter.unusedSimpArgs false
theorem puts_small {n : Int} (h : n < 128) (l : List Int) : puts (n :: l) = n :: puts l := by
  simp only [puts, List.flatMap_cons, vnt]
  rw [if_neg (by omega)]
  rfl
theorem vnt_ne (d : Nat) (n : Int) : vnt d n ≠ [] := by
  cases d with
  | zero => simp [vnt]
  | succ d => unfold vnt; split <;> simp
theorem puts_ne (n : Int) (l : List Int) : puts (n :: l) ≠ [] := by
  simp only [puts, List.flatMap_cons]
  intro h
  exact vnt_ne 9 n (List.append_eq_nil_iff.1 h).1
def entryL (a b : Int) (l : List S130) : List Int :=
  if a = 1 ∧ b = 0 then (if l.length ≤ 40 ∧ l.all okMove = true then 1 :: puts (movesNums l) else []) else if 2 ≤ a ∧ a ≤ 4 ∧ 1 ≤ b ∧ b ≤ 40 ∧ l = [] then [a, b] else []
theorem flat_len (l : List S130) : (l.flatMap moveNums).length = 4 * l.length := by
  induction l with
  | nil => rfl
  | cons a l ih => rw [List.flatMap_cons, List.length_append, ih]; simp [moveNums]; omega
theorem okMove_iff (m : S130) : okMove m = true ↔ (0 ≤ m.f0 ∧ m.f0 ≤ 2147483647) ∧ (0 ≤ m.f1 ∧ m.f1 ≤ 2147483647) ∧ (0 ≤ m.f2 ∧ m.f2 ≤ 2147483647) ∧ (0 ≤ m.f3 ∧ m.f3 ≤ 2147483647) := by
  simp only [okMove, decide_eq_true_eq]
  omega
theorem movesNums_in {l : List S130} (hl : l.length ≤ 40) (h : l.all okMove = true) : ∀ x ∈ movesNums l, inU x := by
  intro x hx
  simp only [movesNums, List.mem_cons, List.mem_flatMap] at hx
  rcases hx with rfl | ⟨m, hm, hx⟩
  · exact ⟨by omega, by omega⟩
  · have := (okMove_iff m).1 (List.all_eq_true.1 h m hm)
    simp only [moveNums, List.mem_cons, List.not_mem_nil, or_false] at hx
    unfold inU
    rcases hx with rfl | rfl | rfl | rfl <;> omega
theorem movesNums_len (l : List S130) : (movesNums l).length = 4 * l.length + 1 := by rw [movesNums, List.length_cons, flat_len]
theorem entryL_len (a b : Int) (l : List S130) : (entryL a b l).length ≤ 2000 := by
  unfold entryL
  split
  · split
    · next h =>
      have h1 := puts_length (movesNums l)
      rw [movesNums_len] at h1
      simp only [List.length_cons]
      omega
    · simp
  · split <;> simp
theorem codec_ev (l : List S130) : Ev (fun k => codec_Moves.f k l) (if l.length ≤ 40 ∧ l.all okMove = true then (puts (movesNums l), none) else ([], some 1)) := by
  by_cases h1 : l.length ≤ 40
  · by_cases h2 : l.all okMove = true
    · rw [if_pos ⟨h1, h2⟩]
      refine Ev.congr (f := fun k => (wire_Put.f k (movesNums l)).bind fun r => some (r, none)) (fun k => ?_) (Ev.bind (wput _ (movesNums_in h1 h2) (by rw [movesNums_len]; omega)) (Ev.now _))
      simp only [codec_Moves.f, movesF]
      rw [if_neg (by omega), if_pos h2]
    · rw [if_neg (fun h => h2 h.2)]
      refine Ev.congr (f := fun _ => some ([], some 1)) (fun k => ?_) (Ev.now _)
      simp only [codec_Moves.f, movesF]
      rw [if_neg (by omega), if_neg h2]
  · rw [if_neg (fun h => h1 h.1)]
    refine Ev.congr (f := fun _ => some ([], some 1)) (fun k => ?_) (Ev.now _)
    simp only [codec_Moves.f, movesF]
    rw [if_pos (by omega)]
theorem W_small {n : Int} (h0 : 0 ≤ n) (h1 : n ≤ 2147483647) : IntKind.u64.wrap n = n := by rw [IntKind.wrap_u64]; omega
theorem entry_ev (a b : Int) (l : List S130) : Ev (fun k => journal_entry.f k a b l) (entryL a b l) := by
  unfold journal_entry.f
  have hj : ∀ q : Bool, q = decide (a = 1 ∧ b = 0) → Ev (fun k => journal_entry.j0 k q a b l) (entryL a b l) := by
    rintro q rfl
    by_cases h : a = 1 ∧ b = 0
    · rw [decide_eq_true h]
      refine Ev.step (f := fun k => (codec_Moves.f k l).bind fun t => if t.2.isNone = true then (wire_Put.f k [1]).bind fun u => if u.length + t.1.length < 140737488355328 then some (u ++ t.1) else none else some []) (fun k => ?_) ?_
      · simp only [journal_entry.j0, if_true]
      · refine Ev.bind (codec_ev l) ?_
        unfold entryL
        rw [if_pos h]
        by_cases h2 : l.length ≤ 40 ∧ l.all okMove = true
        · simp only [if_pos h2]
          have h3 := puts_length (movesNums l)
          rw [movesNums_len] at h3
          refine Ev.congr (f := fun k => (wire_Put.f k [1]).bind fun u => if u.length + (puts (movesNums l)).length < 140737488355328 then some (u ++ puts (movesNums l)) else none) (fun k => by simp) ?_
          refine Ev.bind (wput [1] (by intro x hx; simp at hx; subst hx; exact ⟨by omega, by omega⟩) (by simp)) ?_
          rw [show puts [1] = [1] by rfl, if_pos (by simp; omega)]
          exact Ev.now _
        · simp only [if_neg h2]
          exact Ev.now _
    · rw [decide_eq_false h]
      refine Ev.step (f := fun k => if a ≥ 2 then (if a ≤ 4 then (if b ≥ 1 then (if b ≤ 40 then (if (l.length : Int) = 0 then (wire_Put.f k [IntKind.u64.wrap a, IntKind.u64.wrap b]).bind fun t => some t else some []) else some []) else some []) else some []) else some []) (fun k => ?_) ?_
      · simp only [journal_entry.j0, Bool.false_eq_true, if_false]
      · unfold entryL
        rw [if_neg h]
        by_cases h2 : 2 ≤ a ∧ a ≤ 4 ∧ 1 ≤ b ∧ b ≤ 40 ∧ l = []
        · obtain ⟨g1, g2, g3, g4, g5⟩ := h2
          subst g5
          rw [if_pos ⟨g1, g2, g3, g4, rfl⟩]
          refine Ev.congr (f := fun k => (wire_Put.f k [a, b]).bind fun t => some t) (fun k => ?_) ?_
          · rw [if_pos g1, if_pos g2, if_pos g3, if_pos g4, if_pos (by simp), W_small (by omega) (by omega), W_small (by omega) (by omega)]
          · have hw := wput [a, b] (by intro x hx; simp only [List.mem_cons, List.not_mem_nil, or_false] at hx; unfold inU; rcases hx with rfl | rfl <;> omega) (by simp)
            rw [puts_small (by omega), puts_small (by omega), show puts [] = [] by rfl] at hw
            exact Ev.bind hw (Ev.now _)
        · rw [if_neg h2]
          refine Ev.congr (f := fun _ => some []) (fun k => ?_) (Ev.now _)
          by_cases g1 : a ≥ 2
          · by_cases g2 : a ≤ 4
            · by_cases g3 : b ≥ 1
              · by_cases g4 : b ≤ 40
                · have g5 : ¬ (l.length : Int) = 0 := fun e => h2 ⟨g1, g2, g3, g4, List.eq_nil_of_length_eq_zero (by omega)⟩
                  rw [if_pos g1, if_pos g2, if_pos g3, if_pos g4, if_neg g5]
                · rw [if_pos g1, if_pos g2, if_pos g3, if_neg g4]
              · rw [if_pos g1, if_pos g2, if_neg g3]
            · rw [if_pos g1, if_neg g2]
          · rw [if_neg g1]
  by_cases h : a = 1
  · simp only [if_pos h]
    refine hj _ ?_
    subst h
    by_cases hb : b = 0 <;> simp [hb]
  · simp only [if_neg h]
    exact hj _ (by simp [h])
theorem may_ev (a b : Int) (l : List S130) : Ev (fun k => journal_May.f k a b l) (decide (((entryL a b l).length : Int) > 0)) :=
  Ev.bind (entry_ev a b l) (Ev.now _)
def recordL (a b : Int) (l : List S130) : List Int := puts [((entryL a b l).length : Int)] ++ entryL a b l
theorem len_in (a b : Int) (l : List S130) : ∀ x ∈ [IntKind.u64.wrap ((entryL a b l).length : Int)], inU x := by
  intro x hx
  have := entryL_len a b l
  rw [W_small (by omega) (by omega)] at hx
  simp only [List.mem_cons, List.not_mem_nil, or_false] at hx
  unfold inU
  omega
theorem bytes_ev (a b : Int) (l : List S130) : Ev (fun k => journal_Bytes.f k a b l) (if entryL a b l = [] then ([], some 1) else (recordL a b l, none)) := by
  refine Ev.bind (entry_ev a b l) ?_
  have hl := entryL_len a b l
  by_cases h : entryL a b l = []
  · rw [if_pos h]
    refine Ev.congr (f := fun _ => some ([], some 1)) (fun k => ?_) (Ev.now _)
    rw [if_pos (by rw [h]; rfl)]
  · have h0 : ¬ ((entryL a b l).length : Int) = 0 := fun e => h (List.eq_nil_of_length_eq_zero (by omega))
    simp only [if_neg h0]
    rw [if_neg h]
    have hw := wput _ (len_in a b l) (by simp)
    rw [W_small (by omega) (by omega)] at hw
    have hp := puts_length [((entryL a b l).length : Int)]
    rw [W_small (by omega) (by omega)]
    refine Ev.bind hw ?_
    rw [if_pos (by simp only [List.length_cons, List.length_nil] at hp; omega)]
    exact Ev.now _
theorem small_iff (n : Int) : dunnageref04_small.f n = some (decide (0 ≤ n ∧ n ≤ 2147483647)) := by
  unfold dunnageref04_small.f
  by_cases h : n ≥ 0
  · rw [if_pos h]
    congr 1
    simp only [decide_eq_decide]
    omega
  · rw [if_neg h, decide_eq_false (by omega)]
theorem rd130 (xs : List S130) (i : Int) (h0 : 0 ≤ i) (h1 : i < (xs.length : Int)) : ∃ a r, rd_T130 xs i = a ∧ xs.drop i.toNat = a :: r ∧ xs.drop (i + 1).toNat = r ∧ xs.take (i + 1).toNat = xs.take i.toNat ++ [a] := by
  have hi : i.toNat < xs.length := by omega
  refine ⟨xs[i.toNat], xs.drop (i.toNat + 1), by simp [rd_T130, List.getElem?_eq_getElem hi], List.drop_eq_getElem_cons hi, by congr 1; omega, ?_⟩
  rw [show (i + 1).toNat = i.toNat + 1 by omega, List.take_add_one, List.getElem?_eq_getElem hi]
  rfl
theorem rmoves0 (xs : List S130) (hxl : xs.length ≤ 40) : ∀ (m : Nat) (i : Int), 0 ≤ i → i + m = xs.length → (xs.take i.toNat).all okMove = true →
    Ev (fun k => dunnageref04_Moves.l0 k xs ((xs.length : Int) :: (xs.take i.toNat).flatMap moveNums) i) (if xs.all okMove = true then (movesNums xs, true) else ([], false))
  | 0, i, h0, hm, hs => by
    have e : xs.take i.toNat = xs := List.take_of_length_le (by omega)
    rw [e] at hs
    rw [if_pos hs]
    refine Ev.step (f := fun _ => some (movesNums xs, true)) (fun k => ?_) (Ev.now _)
    simp only [dunnageref04_Moves.l0]
    rw [if_neg (by omega), e]
    rfl
  | m + 1, i, h0, hm, hs => by
    obtain ⟨a, r, e1, e2, e3, e4⟩ := rd130 xs i h0 (by omega)
    have hw : wrap64 (i + 1) = i + 1 := by unfold wrap64; omega
    have hmem : a ∈ xs := List.mem_of_mem_drop (by rw [e2]; exact List.mem_cons_self)
    by_cases hok : okMove a = true
    · have hq := (okMove_iff a).1 hok
      have ih := rmoves0 xs hxl m (i + 1) (by omega) (by omega) (by rw [e4, List.all_append, hs]; simp [hok])
      refine Ev.step (f := fun k => dunnageref04_Moves.l0 k xs ((xs.length : Int) :: (xs.take (i + 1).toNat).flatMap moveNums) (i + 1)) (fun k => ?_) ih
      simp only [dunnageref04_Moves.l0]
      rw [if_pos (by omega), if_pos h0, e1, hw]
      simp only [small_iff, Option.bind_some, decide_eq_true hq.1, decide_eq_true hq.2.1, decide_eq_true hq.2.2.1, decide_eq_true hq.2.2.2, if_true]
      rw [W_small (by omega) (by omega), W_small (by omega) (by omega), W_small (by omega) (by omega), W_small (by omega) (by omega), if_pos (by simp only [List.length_cons, flat_len, List.length_take, List.length_nil]; omega), e4, List.flatMap_append]
      simp [moveNums]
    · have hno : ¬ xs.all okMove = true := fun h => hok (List.all_eq_true.1 h a hmem)
      rw [if_neg hno]
      refine Ev.step (f := fun _ => some ([], false)) (fun k => ?_) (Ev.now _)
      simp only [dunnageref04_Moves.l0]
      rw [if_pos (by omega), if_pos h0, e1]
      simp only [small_iff, Option.bind_some]
      by_cases q0 : 0 ≤ a.f0 ∧ a.f0 ≤ 2147483647
      · by_cases q1 : 0 ≤ a.f1 ∧ a.f1 ≤ 2147483647
        · by_cases q2 : 0 ≤ a.f2 ∧ a.f2 ≤ 2147483647
          · have q3 : ¬ (0 ≤ a.f3 ∧ a.f3 ≤ 2147483647) := fun q3 => hok ((okMove_iff a).2 ⟨q0, q1, q2, q3⟩)
            simp only [decide_eq_true q0, decide_eq_true q1, decide_eq_true q2, decide_eq_false q3, if_true, Bool.false_eq_true, if_false]
          · simp only [decide_eq_true q0, decide_eq_true q1, decide_eq_false q2, if_true, Bool.false_eq_true, if_false]
        · simp only [decide_eq_true q0, decide_eq_false q1, if_true, Bool.false_eq_true, if_false]
      · simp only [decide_eq_false q0, if_true, Bool.false_eq_true, if_false]
theorem rmoves_ev (l : List S130) : Ev (fun k => dunnageref04_Moves.f k l) (if l.length ≤ 40 ∧ l.all okMove = true then (movesNums l, true) else ([], false)) := by
  by_cases h1 : l.length ≤ 40
  · have h := rmoves0 l h1 l.length 0 (by omega) (by omega) (by simp)
    simp only [h1, true_and]
    refine Ev.congr (f := fun k => dunnageref04_Moves.l0 k l ((l.length : Int) :: (l.take (0 : Int).toNat).flatMap moveNums) 0) (fun k => ?_) h
    unfold dunnageref04_Moves.f
    rw [if_neg (by omega), W_small (by omega) (by omega)]
    simp
  · rw [if_neg (fun h => h1 h.1)]
    refine Ev.congr (f := fun _ => some ([], false)) (fun k => ?_) (Ev.now _)
    unfold dunnageref04_Moves.f
    rw [if_pos (by omega)]
theorem rbytes_ev (a b : Int) (l : List S130) : ∃ x, Ev (fun k => dunnageref22_bytes.f k a b l) (x, decide (entryL a b l ≠ [])) ∧ (entryL a b l ≠ [] → x = entryL a b l) := by
  unfold dunnageref22_bytes.f
  have hj : ∀ q : Bool, q = decide (a = 1 ∧ b = 0) → ∃ x, Ev (fun k => dunnageref22_bytes.j0 k q a b l) (x, decide (entryL a b l ≠ [])) ∧ (entryL a b l ≠ [] → x = entryL a b l) := by
    rintro q rfl
    by_cases h : a = 1 ∧ b = 0
    · rw [decide_eq_true h]
      by_cases h2 : l.length ≤ 40 ∧ l.all okMove = true
      · have he : entryL a b l = 1 :: puts (movesNums l) := by unfold entryL; rw [if_pos h, if_pos h2]
        refine ⟨1 :: puts (movesNums l), ?_, fun _ => he.symm⟩
        rw [decide_eq_true (by rw [he]; simp)]
        refine Ev.step (f := fun k => (dunnageref04_Moves.f k l).bind fun t => (some ([1] : List Int)).bind fun y => if y.length + t.1.length < 17592186044416 then (dunnageref02_Put.f k (y ++ t.1)).bind fun u => some (u, t.2) else none) (fun k => ?_) ?_
        · simp only [dunnageref22_bytes.j0, if_true]
        · have hm := rmoves_ev l
          rw [if_pos h2] at hm
          refine Ev.bind hm ?_
          have h3 := movesNums_len l
          have hp := rput (1 :: movesNums l) (by intro x hx; rcases List.mem_cons.1 hx with rfl | hx; exact ⟨by omega, by omega⟩; exact movesNums_in h2.1 h2.2 x hx) (by simp only [List.length_cons]; omega)
          rw [puts_small (by omega)] at hp
          refine Ev.congr (f := fun k => (dunnageref02_Put.f k (1 :: movesNums l)).bind fun u => some (u, true)) (fun k => ?_) (Ev.bind hp (Ev.now _))
          simp only [Option.bind_some, List.singleton_append]
          rw [if_pos (by simp only [List.length_cons, List.length_nil]; omega)]
      · have he : entryL a b l = [] := by unfold entryL; rw [if_pos h, if_neg h2]
        refine ⟨[1], ?_, fun h => absurd he h⟩
        rw [decide_eq_false (by rw [he]; simp)]
        refine Ev.step (f := fun k => (dunnageref04_Moves.f k l).bind fun t => (some ([1] : List Int)).bind fun y => if y.length + t.1.length < 17592186044416 then (dunnageref02_Put.f k (y ++ t.1)).bind fun u => some (u, t.2) else none) (fun k => ?_) ?_
        · simp only [dunnageref22_bytes.j0, if_true]
        · have hm := rmoves_ev l
          rw [if_neg h2] at hm
          refine Ev.bind hm ?_
          have hp := rput [1] (by intro x hx; simp at hx; subst hx; exact ⟨by omega, by omega⟩) (by simp)
          refine Ev.congr (f := fun k => (dunnageref02_Put.f k [1]).bind fun u => some (u, false)) (fun k => ?_) (Ev.bind hp (Ev.now _))
          simp
    · rw [decide_eq_false h]
      by_cases h2 : 2 ≤ a ∧ a ≤ 4 ∧ 1 ≤ b ∧ b ≤ 40 ∧ l = []
      · have he : entryL a b l = [a, b] := by unfold entryL; rw [if_neg h, if_pos h2]
        refine ⟨[a, b], ?_, fun _ => he.symm⟩
        rw [decide_eq_true (by rw [he]; simp)]
        obtain ⟨g1, g2, g3, g4, g5⟩ := h2
        have hw := rput [a, b] (by intro x hx; simp only [List.mem_cons, List.not_mem_nil, or_false] at hx; unfold inU; rcases hx with rfl | rfl <;> omega) (by simp)
        rw [puts_small (by omega), puts_small (by omega), show puts [] = [] by rfl] at hw
        refine Ev.step (f := fun k => (dunnageref02_Put.f k [a, b]).bind fun u => some (u, true)) (fun k => ?_) (Ev.bind hw (Ev.now _))
        simp only [dunnageref22_bytes.j0, Bool.false_eq_true, if_false]
        rw [if_neg (by omega), if_neg (by omega), if_neg (by omega), if_neg (by omega), if_pos (by rw [g5]; rfl), W_small (by omega) (by omega), W_small (by omega) (by omega)]
      · have he : entryL a b l = [] := by unfold entryL; rw [if_neg h, if_neg h2]
        refine ⟨[], ?_, fun h => absurd he h⟩
        rw [decide_eq_false (by rw [he]; simp)]
        refine Ev.step (f := fun _ => some ([], false)) (fun k => ?_) (Ev.now _)
        simp only [dunnageref22_bytes.j0, Bool.false_eq_true, if_false]
        by_cases g1 : a < 2
        · rw [if_pos g1]
        by_cases g2 : a > 4
        · rw [if_neg g1, if_pos g2]
        by_cases g3 : b < 1
        · rw [if_neg g1, if_neg g2, if_pos g3]
        by_cases g4 : b > 40
        · rw [if_neg g1, if_neg g2, if_neg g3, if_pos g4]
        rw [if_neg g1, if_neg g2, if_neg g3, if_neg g4, if_neg (fun e => h2 ⟨by omega, by omega, by omega, by omega, List.eq_nil_of_length_eq_zero (by omega)⟩)]
  by_cases h : a = 1
  · simp only [if_pos h]
    refine hj _ ?_
    subst h
    by_cases hb : b = 0 <;> simp [hb]
  · simp only [if_neg h]
    exact hj _ (by simp [h])
theorem strOf_append (x y : List Int) : strOfNums (x ++ y) = strOfNums x ++ strOfNums y := by
  apply ByteArray.ext
  apply Array.toList_inj.1
  simp [strOfNums]
theorem record_ev (a b : Int) (l : List S130) : Ev (fun k => dunnageref22_Record.f k a b l) (if entryL a b l = [] then (⟨#[]⟩, false) else (strOfNums (recordL a b l), true)) := by
  obtain ⟨x, hx, hxe⟩ := rbytes_ev a b l
  refine Ev.bind hx ?_
  by_cases h : entryL a b l = []
  · rw [if_pos h]
    refine Ev.congr (f := fun _ => some (⟨#[]⟩, false)) (fun k => ?_) (Ev.now _)
    simp [h]
  · obtain rfl := hxe h
    rw [if_neg h]
    have hl := entryL_len a b l
    have hw := rput _ (len_in a b l) (by simp)
    have hp := puts_length [((entryL a b l).length : Int)]
    simp only [List.length_cons, List.length_nil] at hp
    refine Ev.congr (f := fun n => (dunnageref02_Put.f n [IntKind.u64.wrap ((entryL a b l).length : Int)]).bind fun t => if (strOfNums t).size + (strOfNums (entryL a b l)).size ≤ 9223372036854775807 then some (strOfNums t ++ strOfNums (entryL a b l), true) else none) (fun k => by simp [h]) ?_
    rw [W_small (by omega) (by omega)] at hw ⊢
    refine Ev.bind hw ?_
    rw [if_pos (by rw [strOfNums_size, strOfNums_size]; omega), ← strOf_append]
    exact Ev.now _
end Go.Proofs.Ytppfkbigeknedaa.Q
