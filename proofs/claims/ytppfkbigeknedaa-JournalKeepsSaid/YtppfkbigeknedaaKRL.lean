/- Same, records read back, merged -/
import Derived.Test.YtppfkbigeknedaaKSP
import Derived.Test.YtppfkbigeknedaaKQdunnageref22Same
namespace Go.Proofs.Ytppfkbigeknedaa.Q
open Go.RowKit Go.Proofs.YtppfkbigeknedaaW.PrintWords
set_option linter.unusedVariables false
set_option linter.unusedSimpArgs false
theorem one_vnt (n : Int) (r : List Int) (h : inU n) : oneG 9 (vnt 9 n ++ r) = some (n, (vnt 9 n).length) :=
  oneG_vnt 9 n r h.1 (by rw [pow9]; exact h.2)
theorem one_torn (n : Int) (t : Nat) (h : inU n) (ht : t < (vnt 9 n).length) : oneG 9 ((vnt 9 n).take t) = none :=
  oneG_torn 9 n t h.1 (by rw [pow9]; exact h.2) ht
theorem drop_here (x y : List Int) : (x ++ y).drop x.length = y := by simp
theorem all_puts : ∀ (l : List Int), (∀ x ∈ l, inU x) → ∀ f, (puts l).length ≤ f → allF f (puts l) = some l
  | [], _, f, _ => by cases f <;> rfl
  | n :: l, h, f, hf => by
    have e : puts (n :: l) = vnt 9 n ++ puts l := rfl
    have hp := List.length_pos_iff.2 (vnt_ne 9 n)
    have h1 := one_vnt n (puts l) (h n List.mem_cons_self)
    rw [e] at hf ⊢
    rw [List.length_append] at hf
    obtain ⟨f, rfl⟩ : ∃ g, f = g + 1 := ⟨f - 1, by omega⟩
    have ih := all_puts l (fun x hx => h x (List.mem_cons_of_mem _ hx)) f (by omega)
    have hd := drop_here (vnt 9 n) (puts l)
    obtain ⟨x, r, hx⟩ := List.exists_cons_of_ne_nil (show vnt 9 n ++ puts l ≠ [] from by simp [vnt_ne])
    rw [hx] at h1 hd ⊢
    simp only [allF, h1, Option.bind_some, hd, ih, Option.map_some]
theorem toMoves_flat : ∀ (l : List S130), toMoves (l.flatMap moveNums) = l
  | [] => rfl
  | m :: l => by
    rw [List.flatMap_cons]
    show (⟨m.f0, m.f1, m.f2, m.f3⟩ : S130) :: toMoves (l.flatMap moveNums) = m :: l
    rw [toMoves_flat l]
theorem movesOf_nums (l : List S130) (h : l.length ≤ 40) (ho : l.all okMove = true) : movesOf (movesNums l) = some l := by
  show (if ((l.length : Int) ≤ 40 ∧ ((l.flatMap moveNums).length : Int) = 4 * (l.length : Int) ∧ (l.flatMap moveNums).all (fun n => decide (n ≤ 2147483647)) = true) then some (toMoves (l.flatMap moveNums)) else none) = some l
  rw [if_pos, toMoves_flat]
  refine ⟨by omega, ?_, ?_⟩
  · rw [flat_len]; omega
  · rw [List.all_eq_true]
    intro x hx
    obtain ⟨m, hm, hx⟩ := List.mem_flatMap.1 hx
    have := (okMove_iff m).1 (List.all_eq_true.1 ho m hm)
    simp only [moveNums, List.mem_cons, List.not_mem_nil, or_false] at hx
    rw [decide_eq_true_eq]
    rcases hx with rfl | rfl | rfl | rfl <;> omega
theorem readE_entry (a b : Int) (m : List S130) (h : entryL a b m ≠ []) : readE (entryL a b m) = some ⟨a, b, m⟩ := by
  unfold entryL at h ⊢
  split at h
  next hab =>
    obtain ⟨rfl, rfl⟩ := hab
    rw [if_pos ⟨rfl, rfl⟩]
    split at h
    next hm =>
      rw [if_pos hm]
      have h1 : readMovesL (puts (movesNums m)) = some m := by
        unfold readMovesL allL
        rw [all_puts _ (movesNums_in hm.1 hm.2) _ (Nat.le_refl _)]
        exact movesOf_nums m hm.1 hm.2
      unfold readE
      have h2 : oneG 9 (1 :: puts (movesNums m)) = some (1, 1) := rfl
      rw [h2]
      simp only [Option.bind_some, List.drop_succ_cons, List.drop_zero, h1]
      rfl
    next => exact absurd rfl h
  next hab =>
    rw [if_neg hab]
    split at h
    next hc =>
      rw [if_pos hc]
      obtain ⟨c1, c2, c3, c4, rfl⟩ := hc
      unfold readE
      have h2 : oneG 9 [a, b] = some (a, 1) := if_pos (by omega)
      have h3 : allL [b] = some [b] := by
        show (oneG 9 [b]).bind _ = _
        have h4 : oneG 9 [b] = some (b, 1) := if_pos (by omega)
        rw [h4]
        rfl
      rw [h2]
      simp only [Option.bind_some, List.drop_succ_cons, List.drop_zero, h3]
      rw [if_neg (by omega)]
      show (if _ then _ else _) = _
      rw [if_pos ⟨c1, c2, c3, c4⟩]
    next => exact absurd rfl h
theorem rec_form (a b : Int) (m : List S130) : recordL a b m = vnt 9 ((entryL a b m).length : Int) ++ entryL a b m ∧ inU ((entryL a b m).length : Int) := by
  have := entryL_len a b m
  refine ⟨?_, by unfold inU; omega⟩
  unfold recordL puts
  simp
theorem first_rec (a b : Int) (m : List S130) (h : entryL a b m ≠ []) (r : List Int) : firstL (recordL a b m ++ r) = some (⟨a, b, m⟩, (recordL a b m).length) := by
  obtain ⟨h1, h2⟩ := rec_form a b m
  have h3 := readE_entry a b m h
  rw [h1]
  generalize entryL a b m = e at h1 h2 h3 ⊢
  unfold firstL
  rw [List.append_assoc, one_vnt _ _ h2]
  generalize vnt 9 (e.length : Int) = v at h1 ⊢
  simp only [Option.bind_some]
  rw [if_pos (by simp only [List.length_append]; omega), drop_here, Int.toNat_natCast, List.take_left', h3]
  · simp
  · rfl
theorem first_torn (a b : Int) (m : List S130) (t : Nat) (ht : t < (recordL a b m).length) : firstL ((recordL a b m).take t) = none := by
  obtain ⟨h1, h2⟩ := rec_form a b m
  rw [h1] at ht ⊢
  generalize entryL a b m = e at h1 h2 ht ⊢
  unfold firstL
  by_cases hv : t < (vnt 9 (e.length : Int)).length
  · rw [List.take_append_of_le_length (by omega), one_torn _ _ h2 hv]
    rfl
  · have e1 : (vnt 9 (e.length : Int) ++ e).take t = vnt 9 (e.length : Int) ++ e.take (t - (vnt 9 (e.length : Int)).length) := by
      rw [List.take_append, List.take_of_length_le (by omega)]
    rw [e1, one_vnt _ _ h2]
    generalize vnt 9 (e.length : Int) = v at *
    simp only [Option.bind_some]
    rw [if_neg]
    simp only [List.length_append, List.length_take] at ht ⊢
    omega
def recs (es : List S60) : List Int := es.flatMap fun e => recordL e.f0 e.f1 e.f2
def okE (e : S60) : Prop := entryL e.f0 e.f1 e.f2 ≠ []
theorem read_recs (t : List Int) (ht : firstL t = none) : ∀ (es : List S60), (∀ e ∈ es, okE e) → ∀ f, (recs es ++ t).length ≤ f → readF f (recs es ++ t) = (es, (recs es).length)
  | [], _, f, _ => by
    show readF f t = ([], 0)
    cases f with
    | zero => rfl
    | succ f => simp only [readF, ht]
  | e :: es, h, f, hf => by
    have e1 : recs (e :: es) ++ t = recordL e.f0 e.f1 e.f2 ++ (recs es ++ t) := by unfold recs; rw [List.flatMap_cons, List.append_assoc]
    have hp := recordL_pos e.f0 e.f1 e.f2
    have e2 : (recs (e :: es)).length = (recordL e.f0 e.f1 e.f2).length + (recs es).length := by unfold recs; rw [List.flatMap_cons, List.length_append]
    rw [e1, List.length_append] at hf
    rw [e1, e2]
    obtain ⟨f, rfl⟩ : ∃ g, f = g + 1 := ⟨f - 1, by omega⟩
    have h1 := first_rec e.f0 e.f1 e.f2 (h e List.mem_cons_self) (recs es ++ t)
    have ih := read_recs t ht es (fun x hx => h x (List.mem_cons_of_mem _ hx)) f (by omega)
    simp only [readF, h1, drop_here, ih]
theorem readAll_recs {es : List S60} {t : List Int} (h : ∀ e ∈ es, okE e) (ht : firstL t = none) : readAll (recs es ++ t) = (es, (recs es).length) := read_recs t ht es h _ (Nat.le_refl _)
theorem first_nil : firstL [] = none := rfl
theorem recs_snoc (es : List S60) (e : S60) : recs (es ++ [e]) = recs es ++ recordL e.f0 e.f1 e.f2 := by unfold recs; simp
theorem app_recs (es : List S60) (room : Int) (a b : Int) (m : List S130) : ∃ r, jApp (recs es) room false es a b m = (r, recs (if r = none then es ++ [⟨a, b, m⟩] else es), if r = none then es ++ [⟨a, b, m⟩] else es) ∧ (r = none → entryL a b m ≠ []) ∧ (∀ c, r = some c → 1 ≤ c ∧ c ≤ 17) := by
  unfold jApp
  by_cases h : entryL a b m = []
  · rw [if_pos h]
    exact ⟨some 1, by simp, fun h => (by cases h), fun c hc => by injection hc with hc; omega⟩
  · rw [if_neg h]
    unfold dApp
    rw [if_neg (by simp)]
    split
    · exact ⟨some 6, by simp, fun h => (by cases h), fun c hc => by injection hc with hc; omega⟩
    · exact ⟨none, by simp [recs_snoc], fun _ => h, fun c hc => by cases hc⟩
def lenB (a b : Int) (m : List S130) : Nat := if entryL a b m = [] then 0 else (recordL a b m).length
def wantT (es : List S60) (r : Option Int) (a b : Int) (m : List S130) (n : Int) : List S60 := if r = none ∧ ((lenB a b m : Nat) : Int) ≤ n then es ++ [⟨a, b, m⟩] else es
theorem tear_recs (es : List S60) (h : ∀ e ∈ es, okE e) (room : Int) (a b : Int) (m : List S130) (n : Int) :
    ∃ t, (jTear (recs es) room false a b m n).2.1 = recs (wantT es (jTear (recs es) room false a b m n).1 a b m n) ++ t ∧ firstL t = none ∧ Bytes t ∧ (∀ e ∈ wantT es (jTear (recs es) room false a b m n).1 a b m n, okE e) := by
  unfold jTear wantT lenB
  by_cases he : entryL a b m = []
  · rw [if_pos he]
    simp only [reduceCtorEq, false_and, if_false]
    exact ⟨[], by simp, first_nil, (fun y hy => by cases hy), h⟩
  · rw [if_neg he]
    unfold dTear
    rw [if_neg (by simp)]
    split
    · simp only [reduceCtorEq, false_and, if_false]
      exact ⟨[], by simp, first_nil, (fun y hy => by cases hy), h⟩
    split
    · simp only [reduceCtorEq, false_and, if_false]
      exact ⟨[], by simp, first_nil, (fun y hy => by cases hy), h⟩
    · simp only [true_and, if_neg he]
      by_cases hn : ((recordL a b m).length : Int) ≤ n
      · rw [if_pos hn]
        have hp := recordL_pos a b m
        have hc : (cutN n (recordL a b m).length).toNat = (recordL a b m).length := by
          unfold cutN
          rw [if_neg (by omega)]
          split <;> omega
        refine ⟨[], ?_, first_nil, (fun y hy => by cases hy), ?_⟩
        · rw [hc, List.take_length, recs_snoc, List.append_nil]
        · intro e hx
          rcases List.mem_append.1 hx with hx | hx
          · exact h e hx
          · rw [List.mem_singleton] at hx; subst hx; exact he
      · rw [if_neg hn]
        refine ⟨_, rfl, first_torn a b m _ ?_, (recordL_bytes a b m).take _, h⟩
        have hp := recordL_pos a b m
        unfold cutN
        split
        · omega
        split <;> omega
theorem open_recs {es : List S60} {t : List Int} (h : ∀ e ∈ es, okE e) (ht : firstL t = none) : (readAll (recs es ++ t)).1 = es ∧ (recs es ++ t).take (readAll (recs es ++ t)).2 = recs es := by
  rw [readAll_recs h ht]
  exact ⟨rfl, by simp⟩
theorem okE_moves {e : S60} (h : okE e) : e.f2.length ≤ 40 := by
  unfold okE entryL at h
  split at h
  · split at h
    next hm => exact hm.1
    next => exact absurd rfl h
  · split at h
    next hm => rw [hm.2.2.2.2]; simp
    next => exact absurd rfl h
theorem recs_bytes (es : List S60) : Bytes (recs es) := by
  intro y hy
  obtain ⟨e, _, hy⟩ := List.mem_flatMap.1 hy
  exact recordL_bytes _ _ _ y hy
end Go.Proofs.Ytppfkbigeknedaa.Q
namespace Go.Proofs.Ytppfkbigeknedaa.Q
open Go.RowKit Go.Proofs.YtppfkbigeknedaaW.PrintWords
set_option linter.unusedVariables false
set_option linter.unusedSimpArgs false
theorem w64_next (i n : Nat) (h : i < n) (hn : n ≤ 1000000) : wrap64 ((i : Int) + 1) = ((i + 1 : Nat) : Int) := by
  unfold wrap64; omega
theorem sameM_ev (l : List S130) (hl : l.length ≤ 1000000) : Ev (fun k => dunnageref04_SameMoves.f k l l) true := by
  have h : ∀ n i : Nat, i + n = l.length → Ev (fun k => dunnageref04_SameMoves.l0 k l l (i : Int)) true := by
    intro n
    induction n with
    | zero =>
      intro i hi
      refine ⟨1, fun k hk => ?_⟩
      obtain ⟨k, rfl⟩ : ∃ j, k = j + 1 := ⟨k - 1, by omega⟩
      simp only [dunnageref04_SameMoves.l0]
      rw [if_neg (by omega)]
    | succ n ih =>
      intro i hi
      refine Ev.step (f := fun k => dunnageref04_SameMoves.l0 k l l ((i + 1 : Nat) : Int)) (fun k => ?_) (ih (i + 1) (by omega))
      simp only [dunnageref04_SameMoves.l0]
      rw [if_pos (by omega), if_pos (by omega), if_pos (by omega), w64_next i l.length (by omega) hl]
      simp
  unfold dunnageref04_SameMoves.f
  exact Ev.congr (fun k => if_pos rfl) (h l.length 0 (by omega))
theorem same_ev (l : List S60) (hl : l.length ≤ 1000000) (hm : ∀ e ∈ l, e.f2.length ≤ 1000000) : Ev (fun k => dunnageref22_Same.f k l l) true := by
  have h : ∀ n i : Nat, i + n = l.length → Ev (fun k => dunnageref22_Same.l0 k l l (i : Int)) true := by
    intro n
    induction n with
    | zero =>
      intro i hi
      refine ⟨1, fun k hk => ?_⟩
      obtain ⟨k, rfl⟩ : ∃ j, k = j + 1 := ⟨k - 1, by omega⟩
      simp only [dunnageref22_Same.l0]
      rw [if_neg (by omega)]
    | succ n ih =>
      intro i hi
      have hmem : rd_T60 l (i : Int) ∈ l := by
        unfold rd_T60
        rw [Int.toNat_natCast, List.getD_eq_getElem?_getD, List.getElem?_eq_getElem (by omega), Option.getD_some]
        exact List.getElem_mem _
      refine Ev.step (f := fun k => (dunnageref04_SameMoves.f k (rd_T60 l (i : Int)).f2 (rd_T60 l (i : Int)).f2).bind fun t => if t = true then dunnageref22_Same.l0 k l l ((i + 1 : Nat) : Int) else some false) (fun k => ?_) (Ev.bind (sameM_ev _ (hm _ hmem)) ?_)
      · simp only [dunnageref22_Same.l0]
        rw [if_pos (by omega), if_pos (by omega), if_pos (by omega), w64_next i l.length (by omega) hl]
        simp
      · exact Ev.congr (fun k => if_pos rfl) (ih (i + 1) (by omega))
  unfold dunnageref22_Same.f
  exact Ev.congr (fun k => if_pos rfl) (h l.length 0 (by omega))
theorem same_calls {W : World} {A0 A1 : Option Addr} {c0 c1 : Nat} {l : List S60} (hr0 : Kd.C k60 W A0 l.length l) (hc0 : l.length ≤ c0) (hr1 : Kd.C k60 W A1 l.length l) (hc1 : l.length ≤ c1) (hl : l.length ≤ 1000000) (hm : ∀ e ∈ l, e.f2.length ≤ 1000000) :
    Calls Try.prog 57 #[.slice A0 l.length c0, .slice A1 l.length c1] W fun e w' => e = .returned (.bool true) ∧ Below W.heap.size W w' := by
  obtain ⟨k, hk⟩ := (same_ev l hl hm).rounds
  refine (dunnageref22_Same.calls k A0 c0 l A1 c1 l true W hr0 hc0 hr1 hc1 hk).mono ?_
  rintro e w1 ⟨he, hb⟩
  exact ⟨he, hb.below⟩
end Go.Proofs.Ytppfkbigeknedaa.Q
