/- The least key: both walks go hand in hand, and end at the first of the least ones. -/
import Derived.Test.YtppfkbigeknedaaKeyLaws
import Derived.KernelRfl
namespace Go.Proofs.Ytppfkbigeknedaa.Q
open Go.RowKit Go.Proofs.YtppfkbigeknedaaW.PrintWords
set_option linter.unusedVariables false
set_option linter.unusedSimpArgs false
def skey (t : S26) : ByteArray := keyOf t.f0 t.f1 t.f2
def fair (t : S26) : Prop := (∀ p ∈ t.f0, ok70 p) ∧ t.f0.length ≤ 1000
/-- The one that is the least so far, with the i-th. -/
def nxt (l : List S26) (b i : Int) : Int := if b < 0 then i else if Op.bytesLess (skey (rd_T26 l i)).toList (skey (rd_T26 l b)).toList = true then i else b
def go (l : List S26) : Nat → Int → Int → Int
  | 0, b, _ => b
  | m + 1, b, i => go l m (nxt l b i) (i + 1)
def least (l : List S26) : Int := go l l.length (-1) 0
theorem rd26 (xs : List S26) (h : ∀ t ∈ xs, fair t) (i : Int) (h0 : 0 ≤ i) (h1 : i < (xs.length : Int)) : fair (rd_T26 xs i) := by
  have hi : i.toNat < xs.length := by omega
  have e : rd_T26 xs i = xs[i.toNat] := by unfold rd_T26; rw [List.getD_eq_getElem?_getD, List.getElem?_eq_getElem hi]; rfl
  rw [e]; exact h _ (List.getElem_mem hi)
theorem least0 (l : List S26) (h : ∀ t ∈ l, fair t) (hl : l.length ≤ 1000000) : ∀ (m : Nat) (b i : Int) (name : ByteArray), 0 ≤ i → i + m = l.length → (b < 0 ∨ 0 ≤ b ∧ b < i ∧ name = skey (rd_T26 l b)) →
    Ev (fun k => key_Least.l0 k b name l (l.length : Int) i) (go l m b i)
  | 0, b, i, name, h0, hm, hb => by
    refine Ev.step (f := fun _ => some b) (fun k => ?_) (Ev.now _)
    simp only [key_Least.l0]
    rw [if_neg (by omega)]
  | m + 1, b, i, name, h0, hm, hb => by
    have hw : wrap64 (i + 1) = i + 1 := by unfold wrap64; omega
    have hf := rd26 l h i h0 (by omega)
    have hk := key_eq _ (rd_T26 l i).f1 (rd_T26 l i).f2 hf.1 hf.2
    have hlt : i < (l.length : Int) := by omega
    by_cases hneg : b < 0
    · have e : go l (m + 1) b i = go l m i (i + 1) := by simp [go, nxt, hneg]
      rw [e]
      have ih := least0 l h hl m i (i + 1) (skey (rd_T26 l i)) (by omega) (by omega) (.inr ⟨h0, by omega, rfl⟩)
      refine Ev.step (f := fun k => (key_Of.f k (rd_T26 l i).f0 (rd_T26 l i).f1 (rd_T26 l i).f2).bind fun t => key_Least.l0 k i t l (l.length : Int) (i + 1)) (fun k => ?_) (Ev.bind hk ih)
      simp only [key_Least.l0]
      rw [if_pos hlt, if_pos h0, if_pos hlt, hw]
      simp only [hneg, if_true]
    · obtain ⟨hb0, hbi, rfl⟩ : 0 ≤ b ∧ b < i ∧ name = skey (rd_T26 l b) := by rcases hb with hb | hb; omega; exact hb
      by_cases hc : Op.bytesLess (skey (rd_T26 l i)).toList (skey (rd_T26 l b)).toList = true
      · have e : go l (m + 1) b i = go l m i (i + 1) := by simp [go, nxt, hneg, hc]
        rw [e]
        have ih := least0 l h hl m i (i + 1) (skey (rd_T26 l i)) (by omega) (by omega) (.inr ⟨h0, by omega, rfl⟩)
        refine Ev.step (f := fun k => (key_Of.f k (rd_T26 l i).f0 (rd_T26 l i).f1 (rd_T26 l i).f2).bind fun t => if Op.bytesLess t.toList (skey (rd_T26 l b)).toList = true then key_Least.l0 k i t l (l.length : Int) (i + 1) else key_Least.l0 k b (skey (rd_T26 l b)) l (l.length : Int) (i + 1)) (fun k => ?_) (Ev.bind hk (Ev.congr (fun k => ?_) ih))
        · simp only [key_Least.l0]
          rw [if_pos hlt, if_pos h0, if_pos hlt, hw]
          simp only [if_neg hneg]
        · exact if_pos hc
      · have e : go l (m + 1) b i = go l m b (i + 1) := by simp [go, nxt, hneg, hc]
        rw [e]
        have ih := least0 l h hl m b (i + 1) (skey (rd_T26 l b)) (by omega) (by omega) (.inr ⟨hb0, by omega, rfl⟩)
        refine Ev.step (f := fun k => (key_Of.f k (rd_T26 l i).f0 (rd_T26 l i).f1 (rd_T26 l i).f2).bind fun t => if Op.bytesLess t.toList (skey (rd_T26 l b)).toList = true then key_Least.l0 k i t l (l.length : Int) (i + 1) else key_Least.l0 k b (skey (rd_T26 l b)) l (l.length : Int) (i + 1)) (fun k => ?_) (Ev.bind hk (Ev.congr (fun k => ?_) ih))
        · simp only [key_Least.l0]
          rw [if_pos hlt, if_pos h0, if_pos hlt, hw]
          simp only [if_neg hneg]
        · exact if_neg hc
theorem least_eq (l : List S26) (h : ∀ t ∈ l, fair t) (hl : l.length ≤ 1000000) : Ev (fun k => key_Least.f k l) (least l) := least0 l h hl l.length (-1) 0 _ (by omega) (by omega) (.inl (by omega))
/-! ### The order of bytes -/
theorem less_irrefl : ∀ (a : List UInt8), Op.bytesLess a a = false
  | [] => rfl
  | x :: a => by
    unfold Op.bytesLess
    have h := less_irrefl a
    have hx : ¬ x < x := UInt8.lt_irrefl x
    simp [h, hx]
theorem less_trans : ∀ (a b c : List UInt8), Op.bytesLess a b = true → Op.bytesLess b c = true → Op.bytesLess a c = true
  | _, _, [], _, h => by simp [Op.bytesLess] at h
  | _, [], _ :: _, h, _ => by simp [Op.bytesLess] at h
  | [], _ :: _, _ :: _, _, _ => rfl
  | x :: a, y :: b, z :: c, h, k => by
    unfold Op.bytesLess at h k ⊢
    simp only [Bool.or_eq_true, decide_eq_true_eq, Bool.and_eq_true, beq_iff_eq] at h k ⊢
    rcases h with h | ⟨rfl, h⟩ <;> rcases k with k | ⟨rfl, k⟩
    · exact .inl (UInt8.lt_trans h k)
    · exact .inl h
    · exact .inl k
    · exact .inr ⟨rfl, less_trans a b c h k⟩
theorem less_total : ∀ (a b : List UInt8), Op.bytesLess a b = false → Op.bytesLess b a = false → a = b
  | [], [], _, _ => rfl
  | [], y :: b, h, _ => by simp [Op.bytesLess] at h
  | x :: a, [], _, k => by simp [Op.bytesLess] at k
  | x :: a, y :: b, h, k => by
    unfold Op.bytesLess at h k
    simp only [Bool.or_eq_false_iff, decide_eq_false_iff_not, Bool.and_eq_false_iff] at h k
    have e : x = y := by
      exact UInt8.le_antisymm (UInt8.not_lt.1 k.1) (UInt8.not_lt.1 h.1)
    subst e
    simp only [beq_self_eq_true, Bool.true_eq_false, false_or] at h k
    rw [less_total a b h.2 k.2]
/-- What the walk knows: none ahead of i is less, none ahead of the best one is the same. -/
def Best (l : List S26) (b i : Int) : Prop :=
  (i = 0 ∧ b < 0) ∨ (0 ≤ b ∧ b < i ∧ (∀ j, 0 ≤ j → j < i → Op.bytesLess (skey (rd_T26 l j)).toList (skey (rd_T26 l b)).toList = false) ∧ ∀ j, 0 ≤ j → j < b → (skey (rd_T26 l j)).toList ≠ (skey (rd_T26 l b)).toList)
theorem best_step (l : List S26) (b i : Int) (h0 : 0 ≤ i) (h : Best l b i) : Best l (nxt l b i) (i + 1) := by
  rcases h with ⟨rfl, hb⟩ | ⟨hb0, hbi, h1, h2⟩
  · refine .inr ?_
    have e : nxt l b 0 = 0 := by simp [nxt, hb]
    rw [e]
    refine ⟨by omega, by omega, fun j hj hj' => ?_, fun j hj hj' => by omega⟩
    obtain rfl : j = 0 := by omega
    exact less_irrefl _
  · refine .inr ?_
    by_cases hc : Op.bytesLess (skey (rd_T26 l i)).toList (skey (rd_T26 l b)).toList = true
    · have e : nxt l b i = i := by simp [nxt, hc]
      rw [e]
      refine ⟨h0, by omega, fun j hj hj' => ?_, fun j hj hj' => ?_⟩
      · by_cases hji : j = i
        · subst hji; exact less_irrefl _
        · cases hq : Op.bytesLess (skey (rd_T26 l j)).toList (skey (rd_T26 l i)).toList with
          | false => rfl
          | true => exact absurd (less_trans _ _ _ hq hc) (by rw [h1 j hj (by omega)]; simp)
      · intro he
        have := h1 j hj hj'
        rw [he, hc] at this
        exact absurd this (by simp)
    · have e : nxt l b i = b := by simp [nxt, hc, show ¬ b < 0 by omega]
      rw [e]
      refine ⟨hb0, by omega, fun j hj hj' => ?_, h2⟩
      by_cases hji : j = i
      · subst hji; simpa using hc
      · exact h1 j hj (by omega)
theorem best_go (l : List S26) : ∀ (m : Nat) (b i : Int), 0 ≤ i → Best l b i → Best l (go l m b i) (i + m)
  | 0, b, i, h0, h => by simpa [go] using h
  | m + 1, b, i, h0, h => by
    have := best_go l m (nxt l b i) (i + 1) (by omega) (best_step l b i h0 h)
    rw [show i + ((m + 1 : Nat) : Int) = i + 1 + (m : Int) by omega]
    exact this
theorem least_best (l : List S26) : Best l (least l) (l.length : Int) := by
  have := best_go l l.length (-1) 0 (by omega) (.inl ⟨rfl, by omega⟩)
  simpa [least] using this
theorem up17 : Ev (fun k => dunnagelaw17_up.f k) true := by
  have hk := key_eq [] 0 0 (fun p hp => by simp at hp) (by simp)
  have e : (keyOf [] 0 0).toList = ([0, 0, 0] : List UInt8) := by kernel_rfl
  have hl := least_eq [] (fun t ht => by simp at ht) (by simp)
  refine Ev.bind hk (Ev.congr (f := fun k => (key_Least.f k ([] : List S26)).bind fun t => some (t == (-1))) (fun k => if_pos e) (Ev.bind hl (Ev.now _)))
end Go.Proofs.Ytppfkbigeknedaa.Q
