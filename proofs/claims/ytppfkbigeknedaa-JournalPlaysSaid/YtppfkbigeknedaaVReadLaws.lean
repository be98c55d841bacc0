/- Entries read from bytes, in plain lists: the document's functions come to these. -/
import Derived.Test.YtppfkbigeknedaaVOneLaws
import Derived.Test.YtppfkbigeknedaaVQdunnageref22Read
namespace Go.Proofs.Ytppfkbigeknedaa.Q
open Go.RowKit Go.Proofs.YtppfkbigeknedaaW.PrintWords Go.Proofs.YtppfkbigeknedaaW.PrintMore
set_option linter.unusedVariables false
set_option linter.unusedSimpArgs false
def allF : Nat → List Int → Option (List Int)
  | _, [] => some []
  | 0, _ :: _ => none
  | f + 1, x :: r => (oneG 9 (x :: r)).bind fun p => (allF f ((x :: r).drop p.2)).map fun ns => p.1 :: ns
def allL (b : List Int) : Option (List Int) := allF b.length b
def toMoves : List Int → List S130
  | a :: b :: c :: d :: r => ⟨a, b, c, d⟩ :: toMoves r
  | _ => []
def movesOf : List Int → Option (List S130)
  | [] => none
  | c :: r => if c ≤ 40 ∧ (r.length : Int) = 4 * c ∧ r.all (fun n => decide (n ≤ 2147483647)) = true then some (toMoves r) else none
def readMovesL (b : List Int) : Option (List S130) := (allL b).bind movesOf
def tailE (a : Int) : List Int → Option S60
  | [n] => if 2 ≤ a ∧ a ≤ 4 ∧ 1 ≤ n ∧ n ≤ 40 then some ⟨a, n, []⟩ else none
  | _ => none
def readE (b : List Int) : Option S60 :=
  (oneG 9 b).bind fun p => if p.1 = 1 then (readMovesL (b.drop p.2)).map fun m => ⟨1, 0, m⟩ else (allL (b.drop p.2)).bind (tailE p.1)
def firstL (b : List Int) : Option (S60 × Nat) :=
  (oneG 9 b).bind fun p => if p.1 ≤ (b.length : Int) - p.2 then (readE ((b.drop p.2).take p.1.toNat)).map fun e => (e, p.2 + p.1.toNat) else none
def readF : Nat → List Int → List S60 × Nat
  | 0, _ => ([], 0)
  | f + 1, b => match firstL b with
    | none => ([], 0)
    | some (e, n) => (e :: (readF f (b.drop n)).1, n + (readF f (b.drop n)).2)
def readAll (b : List Int) : List S60 × Nat := readF b.length b
def Bytes (b : List Int) : Prop := ∀ x ∈ b, isByte x
theorem one9 (b : List Int) (hb : Bytes b) (m : Int) (l : Nat) (h : oneG 9 b = some (m, l)) : 0 ≤ m ∧ m < 18446744073709551616 ∧ 1 ≤ l ∧ l ≤ b.length := by
  have h := oneG_bounds 9 b hb m l h
  rw [pow9] at h
  exact h
theorem Bytes.drop {b : List Int} (h : Bytes b) (n : Nat) : Bytes (b.drop n) := fun x hx => h x (List.mem_of_mem_drop hx)
theorem Bytes.take {b : List Int} (h : Bytes b) (n : Nat) : Bytes (b.take n) := fun x hx => h x (List.mem_of_mem_take hx)
theorem rget (b : List Int) (hb : Bytes b) (hl : b.length ≤ 1000000) : Ev (fun k => dunnageref02_Get.f k b 1) (match oneG 9 b with | some (n, l) => ([n], (l : Int), -1) | none => ([], 0, 0)) := by
  have h := rone b hb hl 0 (by omega)
  rw [List.drop_zero] at h
  unfold dunnageref02_Get.f
  refine Ev.step (f := fun k => (dunnageref02_one.f k b 0).bind fun t => if t.2 < 0 then some ([], 0, 0) else dunnageref02_Get.l0 k b 1 [t.1] t.2) (fun k => ?_) (Ev.bind h ?_)
  · simp only [dunnageref02_Get.l0]
    rw [if_pos (by simp)]
    simp
  · cases ho : oneG 9 b with
    | none => simp only [if_pos (show (-1 : Int) < 0 by omega)]; exact Ev.now _
    | some p =>
      obtain ⟨m, l⟩ := p
      simp only [if_neg (show ¬ ((0 + l : Nat) : Int) < 0 by omega)]
      refine Ev.step (f := fun _ => some ([m], (l : Int), -1)) (fun k => ?_) (Ev.now _)
      simp only [dunnageref02_Get.l0]
      rw [if_neg (by simp)]
      simp
theorem rall0 (b : List Int) (hb : Bytes b) (hl : b.length ≤ 1000000) : ∀ (f a : Nat) (acc : List Int), a ≤ b.length → b.length - a ≤ f → acc.length ≤ a → ∃ q : Int, 0 ≤ q ∧
    Ev (fun k => dunnageref02_All.l0 k b acc (a : Int)) (match allF f (b.drop a) with | some ns => (acc ++ ns, -1) | none => ([], q)) := by
  intro f
  induction f with
  | zero =>
    intro a acc ha hf hac
    refine ⟨0, by omega, ?_⟩
    rw [List.drop_eq_nil_of_le (by omega)]
    refine Ev.step (f := fun _ => some (acc, -1)) (fun k => ?_) (by simpa [allF] using Ev.now _)
    simp only [dunnageref02_All.l0]
    rw [if_neg (by omega)]
  | succ f ih =>
    intro a acc ha hf hac
    cases hdr : b.drop a with
    | nil =>
      have : b.length ≤ a := List.drop_eq_nil_iff.1 hdr
      refine ⟨0, by omega, ?_⟩
      refine Ev.step (f := fun _ => some (acc, -1)) (fun k => ?_) (by simpa [allF] using Ev.now _)
      simp only [dunnageref02_All.l0]
      rw [if_neg (by omega)]
    | cons x r =>
      obtain ⟨-, e2, -, -⟩ := rdN b a x r hdr
      have h := rone b hb hl a ha
      rw [hdr] at h
      have hst : ∀ k, dunnageref02_All.l0 (k + 1) b acc (a : Int) = (dunnageref02_one.f k b a).bind fun t => if t.2 < 0 then some ([], (a : Int)) else dunnageref02_All.l0 k b (acc ++ [t.1]) t.2 := by
        intro k
        simp only [dunnageref02_All.l0]
        rw [if_pos (by omega)]
        congr 1
        funext t
        rw [if_pos (show acc.length < 17592186044416 by omega)]
      unfold allF
      cases ho : oneG 9 (x :: r) with
      | none =>
        rw [ho] at h
        refine ⟨a, by omega, Ev.step hst (Ev.bind h ?_)⟩
        simp only [if_pos (show (-1 : Int) < 0 by omega)]
        exact Ev.now _
      | some p =>
        obtain ⟨m, l⟩ := p
        rw [ho] at h
        have hbd := one9 (x :: r) (by rw [← hdr]; exact hb.drop a) m l ho
        have hle : l ≤ b.length - a := by rw [← List.length_drop, hdr]; exact hbd.2.2.2
        obtain ⟨q, hq, h2⟩ := ih (a + l) (acc ++ [m]) (by omega) (by omega) (by simp; omega)
        refine ⟨q, hq, Ev.step hst (Ev.bind h ?_)⟩
        simp only [if_neg (show ¬ ((a + l : Nat) : Int) < 0 by omega)]
        have e : (x :: r).drop l = b.drop (a + l) := by rw [← hdr, List.drop_drop]
        simp only [Option.bind_some]
        rw [e]
        cases hf2 : allF f (b.drop (a + l)) with
        | none => rw [hf2] at h2; exact h2
        | some ns => rw [hf2] at h2; simpa using h2
theorem rall (b : List Int) (hb : Bytes b) (hl : b.length ≤ 1000000) : ∃ q : Int, 0 ≤ q ∧ Ev (fun k => dunnageref02_All.f k b) (match allL b with | some ns => (ns, -1) | none => ([], q)) := by
  obtain ⟨q, hq, h⟩ := rall0 b hb hl b.length 0 [] (by omega) (by omega) (by simp)
  refine ⟨q, hq, ?_⟩
  unfold dunnageref02_All.f
  simpa [allL] using h
theorem all_in : ∀ (f : Nat) (b : List Int), Bytes b → ∀ ns, allF f b = some ns → ns.length ≤ b.length ∧ ∀ n ∈ ns, 0 ≤ n ∧ n < 18446744073709551616
  | _, [], _, ns, h => by
    simp only [allF, Option.some.injEq] at h
    subst h
    simp
  | 0, x :: r, _, ns, h => by simp [allF] at h
  | f + 1, x :: r, hb, ns, h => by
    unfold allF at h
    obtain ⟨p, h1, h2⟩ := Option.bind_eq_some_iff.1 h
    obtain ⟨ms, h3, rfl⟩ := Option.map_eq_some_iff.1 h2
    have hbd := one9 (x :: r) hb p.1 p.2 h1
    have ih := all_in f _ (Bytes.drop hb p.2) ms h3
    rw [List.length_drop] at ih
    have hp := hbd.2.1
    refine ⟨by simp only [List.length_cons] at *; omega, fun n hn => ?_⟩
    rcases List.mem_cons.1 hn with rfl | hn
    · exact ⟨hbd.1, hp⟩
    · exact ih.2 n hn
theorem allL_in (b : List Int) (hb : Bytes b) (ns : List Int) (h : allL b = some ns) : ns.length ≤ b.length ∧ ∀ n ∈ ns, 0 ≤ n ∧ n < 18446744073709551616 := all_in _ b hb ns h
theorem number_ev (n : Int) (h0 : 0 ≤ n) : dunnageref04_number.f n = some (if n ≤ 2147483647 then (n, true) else (0, false)) := by
  unfold dunnageref04_number.f
  by_cases h : n > 2147483647
  · rw [if_pos h, if_neg (by omega)]
  · rw [if_neg h, if_pos (by omega)]
    have : wrap64 n = n := by unfold wrap64; omega
    rw [this]
theorem four_drop (r : List Int) (i : Nat) (h : 4 * i + 4 ≤ r.length) : ∃ p q s t, r.drop (4 * i) = p :: q :: s :: t :: r.drop (4 * (i + 1)) ∧ r.take (4 * (i + 1)) = r.take (4 * i) ++ [p, q, s, t] ∧
    r[4 * i]? = some p ∧ r[4 * i + 1]? = some q ∧ r[4 * i + 2]? = some s ∧ r[4 * i + 3]? = some t := by
  have h0 : 4 * i < r.length := by omega
  have h1 : 4 * i + 1 < r.length := by omega
  have h2 : 4 * i + 2 < r.length := by omega
  have h3 : 4 * i + 3 < r.length := by omega
  refine ⟨r[4 * i], r[4 * i + 1], r[4 * i + 2], r[4 * i + 3], ?_, ?_, List.getElem?_eq_getElem h0, List.getElem?_eq_getElem h1, List.getElem?_eq_getElem h2, List.getElem?_eq_getElem h3⟩
  · rw [List.drop_eq_getElem_cons h0, List.drop_eq_getElem_cons h1, List.drop_eq_getElem_cons h2, List.drop_eq_getElem_cons h3]
    rfl
  · rw [show 4 * (i + 1) = 4 * i + 1 + 1 + 1 + 1 by omega, List.take_add_one, List.take_add_one, List.take_add_one, List.take_add_one, List.getElem?_eq_getElem h0, List.getElem?_eq_getElem h1, List.getElem?_eq_getElem h2, List.getElem?_eq_getElem h3]
    simp only [Option.toList_some, List.append_assoc, List.cons_append, List.nil_append]
theorem toMoves_len : ∀ (n : Nat) (r : List Int), r.length = 4 * n → (toMoves r).length = n
  | 0, r, h => by
    have : r = [] := List.eq_nil_of_length_eq_zero (by omega)
    subst this
    rfl
  | n + 1, a :: b :: c :: d :: r, h => by
    simp only [List.length_cons] at h
    simp only [toMoves, List.length_cons]
    rw [toMoves_len n r (by omega)]
theorem toMoves_append : ∀ (n : Nat) (r : List Int), r.length = 4 * n → ∀ p q s t, toMoves (r ++ [p, q, s, t]) = toMoves r ++ [⟨p, q, s, t⟩]
  | 0, r, h, p, q, s, t => by
    have : r = [] := List.eq_nil_of_length_eq_zero (by omega)
    subst this
    rfl
  | n + 1, a :: b :: c :: d :: r, h, p, q, s, t => by
    simp only [List.length_cons] at h
    simp only [List.cons_append, toMoves, toMoves_append n r (by omega)]
theorem rd_cons (c : Int) (r : List Int) (i : Nat) (x : Int) (h : r[i]? = some x) : rd (c :: r) ((1 + i : Nat) : Int) = x := by
  simp [rd, Nat.add_comm 1 i, h]
theorem w4k (i m : Nat) (h : i ≤ 40) (hm : m ≤ 3) : wrap64 (((1 + 4 * i : Nat) : Int) + (m : Int)) = ((1 + (4 * i + m) : Nat) : Int) := by unfold wrap64; omega
theorem w4l (i : Nat) (h : i ≤ 40) : wrap64 ((i : Int) + 1) = ((i + 1 : Nat) : Int) := by unfold wrap64; omega
theorem w4m (i : Nat) (h : i ≤ 40) : wrap64 (4 * (i : Int)) = 4 * (i : Int) := by unfold wrap64; omega
theorem w4i (i : Nat) (h : i ≤ 40) : wrap64 (1 + wrap64 (4 * (i : Int))) = ((1 + 4 * i : Nat) : Int) := by
  rw [w4m i h]
  unfold wrap64; omega
theorem w64s (c : Int) (h0 : 0 ≤ c) (h1 : c ≤ 1000) : wrap64 c = c := by unfold wrap64; omega
theorem rw0s (c : Int) (r : List Int) (h0 : 0 ≤ c) (h1 : c ≤ 40) : wrap64 (rd (c :: r) 0) = c := by
  rw [show rd (c :: r) 0 = c from rfl]
  exact w64s c h0 (by omega)
theorem rmv0 (c : Int) (r : List Int) (hc0 : 0 ≤ c) (hc : c ≤ 40) (hr : (r.length : Int) = 4 * c) (hin : ∀ n ∈ r, 0 ≤ n ∧ n < 18446744073709551616) : ∀ (m i : Nat), (i : Int) + m = c → (r.take (4 * i)).all (fun n => decide (n ≤ 2147483647)) = true →
    Ev (fun k => dunnageref04_ReadMoves.l0 k (c :: r) (toMoves (r.take (4 * i))) (i : Int)) (if r.all (fun n => decide (n ≤ 2147483647)) = true then (toMoves r, 0, -1) else ([], 2, -1)) := by
  intro m
  induction m with
  | zero =>
    intro i hi hs
    have e : r.take (4 * i) = r := List.take_of_length_le (by omega)
    rw [e] at hs ⊢
    rw [if_pos hs]
    refine Ev.step (f := fun _ => some (toMoves r, 0, -1)) (fun k => ?_) (Ev.now _)
    simp only [dunnageref04_ReadMoves.l0]
    have c0 : (0 : Int) < ((c :: r).length : Int) := by simp only [List.length_cons]; omega
    have c1 : ¬ (i : Int) < c := by omega
    rw [if_pos c0, rw0s c r hc0 hc, if_neg c1]
  | succ m ih =>
    intro i hi hs
    obtain ⟨p, q, s, t, e0, e1, g0, g1, g2, g3⟩ := four_drop r i (by omega)
    have hp := hin p (List.mem_of_getElem? g0)
    have hq := hin q (List.mem_of_getElem? g1)
    have hss := hin s (List.mem_of_getElem? g2)
    have ht := hin t (List.mem_of_getElem? g3)
    have hi40 : i ≤ 40 := by clear hp hq hss ht ih; omega
    have hln : ((c :: r).length : Int) = r.length + 1 := by simp
    have c0 : (0 : Int) < ((c :: r).length : Int) := by omega
    have c1 : (i : Int) < c := by omega
    have b0 : ((1 + 4 * i : Nat) : Int) < ((c :: r).length : Int) := by omega
    have b1 : ((1 + (4 * i + 1) : Nat) : Int) < ((c :: r).length : Int) := by omega
    have b2 : ((1 + (4 * i + 2) : Nat) : Int) < ((c :: r).length : Int) := by omega
    have b3 : ((1 + (4 * i + 3) : Nat) : Int) < ((c :: r).length : Int) := by omega
    have hlen : (toMoves (r.take (4 * i))).length < 4398046511104 := by
      rw [toMoves_len i _ (by rw [List.length_take]; omega)]; omega
    have hst : ∀ k, dunnageref04_ReadMoves.l0 (k + 1) (c :: r) (toMoves (r.take (4 * i))) (i : Int) = if p ≤ 2147483647 ∧ q ≤ 2147483647 ∧ s ≤ 2147483647 ∧ t ≤ 2147483647 then dunnageref04_ReadMoves.l0 k (c :: r) (toMoves (r.take (4 * (i + 1)))) ((i + 1 : Nat) : Int) else some ([], 2, -1) := by
      intro k
      simp only [dunnageref04_ReadMoves.l0]
      have hw1 : wrap64 (((1 + 4 * i : Nat) : Int) + 1) = ((1 + (4 * i + 1) : Nat) : Int) := w4k i 1 hi40 (by decide)
      have hw2 : wrap64 (((1 + 4 * i : Nat) : Int) + 2) = ((1 + (4 * i + 2) : Nat) : Int) := w4k i 2 hi40 (by decide)
      have hw3 : wrap64 (((1 + 4 * i : Nat) : Int) + 3) = ((1 + (4 * i + 3) : Nat) : Int) := w4k i 3 hi40 (by decide)
      have hwi : wrap64 ((i : Int) + 1) = ((i + 1 : Nat) : Int) := w4l i hi40
      rw [if_pos c0, rw0s c r hc0 hc, if_pos c1, w4i i hi40, hw1, hw2, hw3, if_pos (Int.natCast_nonneg _), if_pos b0, rd_cons c r (4 * i) p g0, rd_cons c r (4 * i + 1) q g1, rd_cons c r (4 * i + 2) s g2, rd_cons c r (4 * i + 3) t g3,
        number_ev p hp.1, number_ev q hq.1, number_ev s hss.1, number_ev t ht.1]
      simp only [Option.bind_some]
      rw [if_pos (Int.natCast_nonneg _), if_pos b1, if_pos (Int.natCast_nonneg _), if_pos b2, if_pos (Int.natCast_nonneg _), if_pos b3, hwi]
      clear hw1 hw2 hw3 hwi
      by_cases a0 : p ≤ 2147483647
      · by_cases a1 : q ≤ 2147483647
        · by_cases a2 : s ≤ 2147483647
          · by_cases a3 : t ≤ 2147483647
            · simp only [a0, a1, a2, a3, and_self, if_true, hlen]
              rw [e1, toMoves_append i _ (by rw [List.length_take]; omega)]
            · simp [a0, a1, a2, a3]
          · simp [a0, a1, a2]
        · simp [a0, a1]
      · simp [a0]
    by_cases ha : p ≤ 2147483647 ∧ q ≤ 2147483647 ∧ s ≤ 2147483647 ∧ t ≤ 2147483647
    · refine Ev.step (f := fun k => dunnageref04_ReadMoves.l0 k (c :: r) (toMoves (r.take (4 * (i + 1)))) ((i + 1 : Nat) : Int)) (fun k => by rw [hst, if_pos ha]) (ih (i + 1) (by omega) ?_)
      rw [e1, List.all_append, hs]
      simp [ha.1, ha.2.1, ha.2.2.1, ha.2.2.2]
    · have hno : ¬ r.all (fun n => decide (n ≤ 2147483647)) = true := by
        intro h
        rw [List.all_eq_true] at h
        have k0 := of_decide_eq_true (h p (List.mem_of_getElem? g0))
        have k1 := of_decide_eq_true (h q (List.mem_of_getElem? g1))
        have k2 := of_decide_eq_true (h s (List.mem_of_getElem? g2))
        have k3 := of_decide_eq_true (h t (List.mem_of_getElem? g3))
        exact ha ⟨k0, k1, k2, k3⟩
      rw [if_neg hno]
      exact Ev.step (f := fun _ => some ([], 2, -1)) (fun k => by rw [hst, if_neg ha]) (Ev.now _)
theorem rmoves (b : List Int) (hb : Bytes b) (hl : b.length ≤ 1000000) : ∃ e q : Int, e ≠ 0 ∧ Ev (fun k => dunnageref04_ReadMoves.f k b) (match readMovesL b with | some m => (m, 0, -1) | none => ([], e, q)) := by
  obtain ⟨q, hq, h⟩ := rall b hb hl
  unfold readMovesL
  cases ha : allL b with
  | none =>
    rw [ha] at h
    refine ⟨2, q, by omega, Ev.bind h ?_⟩
    simp only [if_pos (show q ≥ 0 from hq)]
    exact Ev.now _
  | some ns =>
    rw [ha] at h
    have hin := allL_in b hb ns ha
    cases ns with
    | nil =>
      refine ⟨2, -1, by omega, Ev.bind h ?_⟩
      simp only [if_neg (show ¬ (-1 : Int) ≥ 0 by omega)]
      simp only [List.length_nil, if_pos (show ((0 : Nat) : Int) < 1 by omega)]
      exact Ev.now _
    | cons c r =>
      have hc := hin.2 c (by simp)
      have hlr : r.length + 1 ≤ 1000000 := by have := hin.1; simp only [List.length_cons] at this; omega
      have hrd : rd (c :: r) 0 = c := rfl
      have hln : (c :: r).length = r.length + 1 := rfl
      by_cases hc40 : c > 40
      · refine ⟨3, -1, by omega, Ev.bind h ?_⟩
        have hm : movesOf (c :: r) = none := by rw [movesOf, if_neg (fun e => by omega)]
        have c0 : ¬ ((c :: r).length : Int) < 1 := by rw [hln]; omega
        have c1 : (0 : Int) < ((c :: r).length : Int) := by rw [hln]; omega
        simp only [if_neg (show ¬ (-1 : Int) ≥ 0 by omega), Option.bind_some, hm, hrd, if_pos hc40, if_neg c0, if_pos c1]
        exact Ev.now _
      · have hw : wrap64 (1 + wrap64 (4 * wrap64 c)) = 1 + 4 * c := by unfold wrap64; omega
        refine ⟨2, -1, by omega, Ev.bind h ?_⟩
        simp only [if_neg (show ¬ (-1 : Int) ≥ 0 by decide), Option.bind_some, hrd, if_neg hc40, hw]
        clear hw
        have c0 : ¬ ((c :: r).length : Int) < 1 := by rw [hln]; omega
        have c1 : (0 : Int) < ((c :: r).length : Int) := by rw [hln]; omega
        simp only [if_neg c0, if_pos c1]
        by_cases hlen : (r.length : Int) = 4 * c
        · have c2 : ((c :: r).length : Int) = 1 + 4 * c := by rw [hln]; omega
          simp only [if_pos c2]
          have h3 := rmv0 c r hc.1 (by omega) hlen (fun n hn => hin.2 n (List.mem_cons_of_mem _ hn)) c.toNat 0 (by omega) (by simp)
          have e0 : toMoves (r.take (4 * 0)) = [] := by simp [toMoves]
          rw [e0] at h3
          by_cases hall : r.all (fun n => decide (n ≤ 2147483647)) = true
          · rw [if_pos hall] at h3
            have hm : movesOf (c :: r) = some (toMoves r) := by rw [movesOf, if_pos ⟨by omega, hlen, hall⟩]
            rw [hm]
            exact h3
          · rw [if_neg hall] at h3
            have hm : movesOf (c :: r) = none := by rw [movesOf, if_neg (fun e => hall e.2.2)]
            rw [hm]
            exact h3
        · have c2 : ¬ ((c :: r).length : Int) = 1 + 4 * c := by rw [hln]; omega
          simp only [if_neg c2]
          have hm : movesOf (c :: r) = none := by rw [movesOf, if_neg (fun e => hlen e.2.1)]
          rw [hm]
          exact Ev.now _
theorem rread (b : List Int) (hb : Bytes b) (hl : b.length ≤ 1000000) : ∃ (u v : Int) (m : List S130), Ev (fun k => dunnageref22_read.f k b) (match readE b with | some e => (e.f0, e.f1, e.f2, true) | none => (u, v, m, false)) := by
  have hg := rget b hb hl
  unfold readE
  cases ho : oneG 9 b with
  | none =>
    rw [ho] at hg
    refine ⟨0, 0, [], Ev.bind hg ?_⟩
    simp only [if_pos (show (0 : Int) ≥ 0 by omega)]
    exact Ev.now _
  | some p =>
    obtain ⟨a, l⟩ := p
    rw [ho] at hg
    have hbd := one9 b hb a l ho
    have hdl : (b.drop l).length ≤ 1000000 := by rw [List.length_drop]; omega
    have hm1 : ¬ (-1 : Int) ≥ 0 := by decide
    have hl0 : (0 : Int) ≤ (l : Int) := Int.natCast_nonneg _
    have hl1 : (l : Int) ≤ (b.length : Int) := Int.ofNat_le.2 hbd.2.2.2
    have h01 : (0 : Int) < (([a] : List Int).length : Int) := by simp
    have hrd : rd [a] 0 = a := rfl
    simp only [Option.bind_some]
    by_cases ha : a = 1
    · obtain ⟨e, q, he, hm⟩ := rmoves (b.drop l) (Bytes.drop hb l) hdl
      refine ⟨1, 0, [], Ev.bind hg ?_⟩
      simp only [if_neg hm1, if_pos h01, hrd, if_pos ha, if_pos hl0, if_pos hl1, Int.toNat_natCast]
      refine Ev.bind hm ?_
      cases hr : readMovesL (b.drop l) with
      | none =>
        have : (e == 0) = false := beq_eq_false_iff_ne.2 he
        simp only [Option.map_none, this]
        exact Ev.now _
      | some m =>
        simp only [Option.map_some, beq_self_eq_true]
        exact Ev.now _
    · obtain ⟨q, hq, hm⟩ := rall (b.drop l) (Bytes.drop hb l) hdl
      refine ⟨0, 0, [], Ev.bind hg ?_⟩
      simp only [if_neg hm1, if_pos h01, hrd, if_neg ha, if_pos hl0, if_pos hl1, Int.toNat_natCast]
      refine Ev.bind hm ?_
      have hbad : ∀ (x y : List Int), Ev (fun k => dunnageref22_read.j0 k x y true) (0, 0, [], false) := fun x y => Ev.step (f := fun _ => some (0, 0, [], false)) (fun k => by simp only [dunnageref22_read.j0, if_true]) (Ev.now _)
      cases hr : allL (b.drop l) with
      | none =>
        simp only [Option.bind_none, if_pos (show q ≥ 0 from hq)]
        exact hbad _ _
      | some ns =>
        have hin := allL_in _ (Bytes.drop hb l) ns hr
        simp only [Option.bind_some, if_neg hm1]
        match ns, hin with
        | [], _ =>
          simp only [tailE, List.length_nil, if_neg (show ¬ ((0 : Nat) : Int) = 1 by decide)]
          exact hbad _ _
        | _ :: _ :: r, _ =>
          have : ¬ ((r.length + 1 + 1 : Nat) : Int) = 1 := by omega
          simp only [tailE, List.length_cons, if_neg this]
          exact hbad _ _
        | [n], hin =>
          have hn := hin.2 n (by simp)
          simp only [tailE, List.length_cons, List.length_nil, if_pos (show ((0 + 1 : Nat) : Int) = 1 by decide)]
          by_cases h2 : a < 2
          · simp only [if_pos h2]
            rw [if_neg (fun h => by omega)]
            exact hbad _ _
          simp only [if_neg h2]
          by_cases h4 : a > 4
          · simp only [decide_eq_true h4]
            rw [if_neg (fun h => by omega)]
            exact hbad _ _
          rw [decide_eq_false h4]
          have hrn : rd [n] 0 = n := rfl
          have h0n : (0 : Int) < (([n] : List Int).length : Int) := by simp
          have hst : ∀ k, dunnageref22_read.j0 (k + 1) [a] [n] false = if n < 1 then some (0, 0, [], false) else if n > 40 then some (0, 0, [], false) else some (wrap64 a, wrap64 n, [], true) := by
            intro k
            simp only [dunnageref22_read.j0, Bool.false_eq_true, if_false, if_pos h0n, hrn, if_pos h01, hrd]
          by_cases h5 : n < 1
          · rw [if_neg (fun h => by omega)]
            exact Ev.step (f := fun _ => some (0, 0, [], false)) (fun k => by rw [hst, if_pos h5]) (Ev.now _)
          by_cases h6 : n > 40
          · rw [if_neg (fun h => by omega)]
            exact Ev.step (f := fun _ => some (0, 0, [], false)) (fun k => by rw [hst, if_neg h5, if_pos h6]) (Ev.now _)
          rw [if_pos ⟨by omega, by omega, by omega, by omega⟩]
          exact Ev.step (f := fun _ => some (a, n, [], true)) (fun k => by rw [hst, if_neg h5, if_neg h6, w64s a hbd.1 (by omega), w64s n hn.1 (by omega)]) (Ev.now _)
theorem first_bounds (b : List Int) (hb : Bytes b) (e : S60) (n : Nat) (h : firstL b = some (e, n)) : 1 ≤ n ∧ n ≤ b.length := by
  unfold firstL at h
  obtain ⟨p, h1, h2⟩ := Option.bind_eq_some_iff.1 h
  have hbd := one9 b hb p.1 p.2 h1
  split at h2
  · obtain ⟨e', h3, h4⟩ := Option.map_eq_some_iff.1 h2
    simp only [Prod.mk.injEq] at h4
    omega
  · cases h2
theorem wA (a l : Nat) (h : a + l ≤ 2000000) : wrap64 ((a : Int) + (l : Int)) = ((a + l : Nat) : Int) := by unfold wrap64; omega
theorem wB1 (n a : Nat) (h : a ≤ n) (hn : n ≤ 1000000) : wrap64 ((n : Int) - (a : Int)) = ((n - a : Nat) : Int) := by unfold wrap64; omega
theorem wB2 (n : Nat) (hn : n ≤ 1000000) : IntKind.u64.wrap (n : Int) = (n : Int) := by rw [IntKind.wrap_u64]; omega
theorem wB (n a l : Nat) (h : a + l ≤ n) (hn : n ≤ 1000000) : IntKind.u64.wrap (wrap64 (wrap64 ((n : Int) - (a : Int)) - (l : Int))) = ((n - a - l : Nat) : Int) := by
  rw [wB1 n a (by omega) hn, wB1 (n - a) l (by omega) (by omega), wB2 _ (by omega)]
theorem wC (x : Int) (h0 : 0 ≤ x) (h1 : x ≤ 1000000) : wrap64 x = ((x.toNat : Nat) : Int) := by unfold wrap64; omega
theorem rRead0 (b : List Int) (hb : Bytes b) (hl : b.length ≤ 1000000) : ∀ (f a : Nat) (acc : List S60), a ≤ b.length → b.length - a ≤ f → acc.length ≤ a →
    Ev (fun k => dunnageref22_Read.l0 k b acc (a : Int)) (acc ++ (readF f (b.drop a)).1, ((a + (readF f (b.drop a)).2 : Nat) : Int)) := by
  intro f
  induction f with
  | zero =>
    intro a acc ha hf hac
    have hd : b.drop a = [] := List.drop_eq_nil_of_le (by omega)
    have hg := rget (b.drop a) (Bytes.drop hb a) (by rw [List.length_drop]; omega)
    rw [hd] at hg
    have h0 : (0 : Int) ≤ (a : Int) := Int.natCast_nonneg _
    have h1 : (a : Int) ≤ (b.length : Int) := Int.ofNat_le.2 ha
    refine Ev.step (f := fun k => (dunnageref02_Get.f k (b.drop a) 1).bind fun t => if t.2.2 ≥ 0 then some (acc, (a : Int)) else (if 0 < (t.1.length : Int) then (if (rd t.1 0) > (IntKind.u64.wrap (wrap64 ((wrap64 ((b.length : Int) - (a : Int))) - t.2.1))) then (some (acc, (a : Int))) else (if 0 ≤ (wrap64 ((a : Int) + t.2.1)) then (if (wrap64 ((a : Int) + t.2.1)) ≤ (wrap64 ((wrap64 ((a : Int) + t.2.1)) + (wrap64 (rd t.1 0)))) then (if (wrap64 ((wrap64 ((a : Int) + t.2.1)) + (wrap64 (rd t.1 0)))) ≤ (b.length : Int) then ((dunnageref22_read.f k ((b.take ((wrap64 ((wrap64 ((a : Int) + t.2.1)) + (wrap64 (rd t.1 0)))) : Int).toNat).drop ((wrap64 ((a : Int) + t.2.1)) : Int).toNat)).bind fun bt110 => (if bt110.2.2.2 = true then (if acc.length < 3518437208883 then (dunnageref22_Read.l0 k b (acc ++ [(⟨bt110.1, bt110.2.1, bt110.2.2.1⟩ : S60)]) (wrap64 ((wrap64 ((a : Int) + t.2.1)) + (wrap64 (rd t.1 0))))) else (none)) else (some (acc, (a : Int))))) else (none)) else (none)) else (none))) else (none))) (fun k => ?_) (Ev.bind (by rw [hd]; exact hg) ?_)
    · simp only [dunnageref22_Read.l0]
      rw [if_pos h0, if_pos h1, Int.toNat_natCast]
    · simp only [oneG, if_pos (show (0 : Int) ≥ 0 by omega), readF, List.append_nil, Nat.add_zero]
      exact Ev.now _
  | succ f ih =>
    intro a acc ha hf hac
    have hdb := Bytes.drop hb a
    have hdl : (b.drop a).length = b.length - a := List.length_drop
    have hg := rget (b.drop a) hdb (by rw [hdl]; omega)
    have h0 : (0 : Int) ≤ (a : Int) := Int.natCast_nonneg _
    have h1 : (a : Int) ≤ (b.length : Int) := Int.ofNat_le.2 ha
    refine Ev.step (f := fun k => (dunnageref02_Get.f k (b.drop a) 1).bind fun t => if t.2.2 ≥ 0 then some (acc, (a : Int)) else (if 0 < (t.1.length : Int) then (if (rd t.1 0) > (IntKind.u64.wrap (wrap64 ((wrap64 ((b.length : Int) - (a : Int))) - t.2.1))) then (some (acc, (a : Int))) else (if 0 ≤ (wrap64 ((a : Int) + t.2.1)) then (if (wrap64 ((a : Int) + t.2.1)) ≤ (wrap64 ((wrap64 ((a : Int) + t.2.1)) + (wrap64 (rd t.1 0)))) then (if (wrap64 ((wrap64 ((a : Int) + t.2.1)) + (wrap64 (rd t.1 0)))) ≤ (b.length : Int) then ((dunnageref22_read.f k ((b.take ((wrap64 ((wrap64 ((a : Int) + t.2.1)) + (wrap64 (rd t.1 0)))) : Int).toNat).drop ((wrap64 ((a : Int) + t.2.1)) : Int).toNat)).bind fun bt110 => (if bt110.2.2.2 = true then (if acc.length < 3518437208883 then (dunnageref22_Read.l0 k b (acc ++ [(⟨bt110.1, bt110.2.1, bt110.2.2.1⟩ : S60)]) (wrap64 ((wrap64 ((a : Int) + t.2.1)) + (wrap64 (rd t.1 0))))) else (none)) else (some (acc, (a : Int))))) else (none)) else (none)) else (none))) else (none))) (fun k => ?_) (Ev.bind hg ?_)
    · simp only [dunnageref22_Read.l0]
      rw [if_pos h0, if_pos h1, Int.toNat_natCast]
    · cases ho : oneG 9 (b.drop a) with
      | none =>
        have hfl : firstL (b.drop a) = none := by unfold firstL; rw [ho]; rfl
        simp only [if_pos (show (0 : Int) ≥ 0 by omega), readF, hfl, List.append_nil, Nat.add_zero]
        exact Ev.now _
      | some p =>
        obtain ⟨n, l⟩ := p
        have hbd := one9 (b.drop a) hdb n l ho
        rw [hdl] at hbd
        have hal : a + l ≤ b.length := by omega
        have hm1 : ¬ (-1 : Int) ≥ 0 := by decide
        have h01 : (0 : Int) < (([n] : List Int).length : Int) := by simp
        have hrd : rd [n] 0 = n := rfl
        simp only [if_neg hm1, if_pos h01, hrd, wB b.length a l hal hl, wA a l (by omega)]
        by_cases hn : n > ((b.length - a - l : Nat) : Int)
        · have hfl : firstL (b.drop a) = none := by
            unfold firstL
            rw [ho, Option.bind_some, if_neg (by rw [hdl]; omega)]
          simp only [if_pos hn, readF, hfl, List.append_nil, Nat.add_zero]
          exact Ev.now _
        · have hN : ∃ N : Nat, n = (N : Int) := ⟨n.toNat, by omega⟩
          obtain ⟨N, rfl⟩ := hN
          have hNl : a + l + N ≤ b.length := by omega
          have c3 : (0 : Int) ≤ (N : Int) := Int.natCast_nonneg _
          have c0 : (0 : Int) ≤ ((a + l : Nat) : Int) := Int.natCast_nonneg _
          have c1 : ((a + l : Nat) : Int) ≤ ((a + l + N : Nat) : Int) := Int.ofNat_le.2 (by omega)
          have c2 : ((a + l + N : Nat) : Int) ≤ (b.length : Int) := Int.ofNat_le.2 hNl
          have e1 : (b.take (a + l + N)).drop (a + l) = ((b.drop a).drop l).take N := by
            rw [List.drop_take, List.drop_drop]
            congr 1
            omega
          have hA : a + l + N ≤ 2000000 := by omega
          have hNI : (N : Int) ≤ 1000000 := by omega
          have hwN : wrap64 (N : Int) = (N : Int) := wC (N : Int) c3 hNI
          have hwA := wA (a + l) N hA
          simp only [if_neg hn, hwN, hwA, if_pos c0, if_pos c1, if_pos c2, Int.toNat_natCast, e1]
          clear hwN hwA
          have hfl : firstL (b.drop a) = (readE (((b.drop a).drop l).take N)).map fun e => (e, l + N) := by
            unfold firstL
            rw [ho, Option.bind_some, if_pos (by rw [hdl]; omega)]
            simp only [Int.toNat_natCast]
          obtain ⟨u, v, m, hr⟩ := rread (((b.drop a).drop l).take N) ((hdb.drop l).take N) (by rw [List.length_take, List.length_drop, hdl]; omega)
          refine Ev.bind hr ?_
          cases he : readE (((b.drop a).drop l).take N) with
          | none =>
            rw [he] at hfl
            simp only [Bool.false_eq_true, if_false, readF, hfl, Option.map_none, List.append_nil, Nat.add_zero]
            exact Ev.now _
          | some e =>
            rw [he] at hfl
            have hac2 : acc.length < 3518437208883 := by omega
            simp only [if_true, if_pos hac2, readF, hfl, Option.map_some]
            have ih1 := ih (a + l + N) (acc ++ [e]) hNl (by omega) (by simp; omega)
            have e2 : (b.drop a).drop (l + N) = b.drop (a + l + N) := by rw [List.drop_drop, Nat.add_assoc]
            rw [e2]
            rw [List.append_assoc] at ih1
            have e3 : a + (l + N + (readF f (b.drop (a + l + N))).2) = a + l + N + (readF f (b.drop (a + l + N))).2 := by omega
            rw [e3]
            exact ih1
theorem rRead (b : List Int) (hb : Bytes b) (hl : b.length ≤ 1000000) : Ev (fun k => dunnageref22_Read.f k b) ((readAll b).1, ((readAll b).2 : Int)) := by
  have h := rRead0 b hb hl b.length 0 [] (by omega) (by omega) (by simp)
  unfold dunnageref22_Read.f
  simpa [readAll] using h
end Go.Proofs.Ytppfkbigeknedaa.Q
