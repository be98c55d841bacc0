/- What wire.Put and the document's Put come to: seven bits a byte of each number. -/
import Derived.Test.YtppfkbigeknedaaKQwirePut
import Derived.Test.YtppfkbigeknedaaKPP
import Derived.Laws.BitsAllLaws
namespace Go.Proofs.Ytppfkbigeknedaa.Q
open Go.RowKit Go.Proofs.YtppfkbigeknedaaW.PrintWords
set_option linter.unusedVariables false
set_option linter.unusedSimpArgs false
def inU (x : Int) : Prop := 0 ≤ x ∧ x < 18446744073709551616
def vnt : Nat → Int → List Int
  | 0, n => [n]
  | d + 1, n => if n ≥ 128 then (n % 128 + 128) :: vnt d (n / 128) else [n]
def puts (l : List Int) : List Int := l.flatMap (vnt 9)
theorem vnt_length : ∀ (d : Nat) (n : Int), (vnt d n).length ≤ d + 1
  | 0, _ => by simp [vnt]
  | d + 1, n => by
    unfold vnt
    split
    · have := vnt_length d (n / 128)
      simp; omega
    · simp
theorem puts_length (l : List Int) : (puts l).length ≤ 10 * l.length := by
  induction l with
  | nil => simp [puts]
  | cons a l ih =>
    have h := vnt_length 9 a
    simp only [puts, List.flatMap_cons, List.length_append, List.length_cons] at ih ⊢
    omega
set_option maxRecDepth 100000 in
theorem or128 : ∀ m : Fin 256, (m.val ||| 128 : Nat) = m.val % 128 + 128 := by decide
theorem or_byte (n : Int) (h : 0 ≤ n) : Go.bits .or .u8 (n % 256) 128 = n % 128 + 128 := by
  rw [u8_or (n % 256) 128 (by omega) (by omega) (by omega) (by omega)]
  have e := or128 ⟨(n % 256).toNat, by omega⟩
  simp only at e
  have e2 : (128 : Int).toNat = 128 := rfl
  rw [e2, e]
  omega
theorem rd_get (xs : List Int) (i : Int) (h0 : 0 ≤ i) (h1 : i < (xs.length : Int)) : ∃ a r, rd xs i = a ∧ xs.drop i.toNat = a :: r ∧ xs.drop (i + 1).toNat = r ∧ a ∈ xs := by
  have hi : i.toNat < xs.length := by omega
  refine ⟨xs[i.toNat], xs.drop (i.toNat + 1), ?_, List.drop_eq_getElem_cons hi, by rw [show (i + 1).toNat = i.toNat + 1 by omega], List.getElem_mem hi⟩
  unfold rd; rw [List.getD_eq_getElem?_getD, List.getElem?_eq_getElem hi]; rfl
theorem wput1 : ∀ (d : Nat) (n : Int) (out xs : List Int) (len i : Int) (r : List Int), 0 ≤ n → n < 128 ^ (d + 1) → out.length + d + 1 < 140737488355328 →
    Ev (fun k => wire_Put.l0 k (out ++ vnt d n) xs len (wrap64 (i + 1))) r → Ev (fun k => wire_Put.l1 k out n xs len i) r
  | 0, n, out, xs, len, i, r, h0, h1, hl, h => by
    refine Ev.step (f := fun k => wire_Put.l0 k (out ++ vnt 0 n) xs len (wrap64 (i + 1))) (fun k => ?_) h
    simp only [wire_Put.l1]
    rw [if_neg (by omega), if_pos (by omega), show n % 256 = n by omega]
    rfl
  | d + 1, n, out, xs, len, i, r, h0, h1, hl, h => by
    by_cases hn : n ≥ 128
    · have hq : n / 128 < 128 ^ (d + 1) := by
        have : (128 : Int) ^ (d + 1 + 1) = 128 ^ (d + 1) * 128 := by rw [Int.pow_succ]
        rw [this] at h1
        exact Int.ediv_lt_of_lt_mul (by omega) h1
      have ih := wput1 d (n / 128) (out ++ [n % 128 + 128]) xs len i r (by omega) hq (by simp; omega) (by
        have e : out ++ [n % 128 + 128] ++ vnt d (n / 128) = out ++ vnt (d + 1) n := by simp [vnt, hn]
        rw [e]; exact h)
      refine Ev.step (f := fun k => wire_Put.l1 k (out ++ [n % 128 + 128]) (n / 128) xs len i) (fun k => ?_) ih
      simp only [wire_Put.l1]
      rw [if_pos hn, if_pos (by omega), or_byte n h0]
    · refine Ev.step (f := fun k => wire_Put.l0 k (out ++ vnt (d + 1) n) xs len (wrap64 (i + 1))) (fun k => ?_) h
      simp only [wire_Put.l1]
      rw [if_neg hn, if_pos (by omega), show n % 256 = n by omega]
      simp [vnt, hn]
theorem pow10 : (128 : Int) ^ (9 + 1) = 1180591620717411303424 := by decide
theorem wput0 (xs : List Int) (hx : ∀ x ∈ xs, inU x) (hxl : xs.length ≤ 1000000000) : ∀ (m : Nat) (i : Int) (out : List Int), 0 ≤ i → i + m = xs.length → out.length + 10 * m + 20 < 140737488355328 →
    Ev (fun k => wire_Put.l0 k out xs (xs.length : Int) i) (out ++ puts (xs.drop i.toNat))
  | 0, i, out, h0, hm, hl => by
    refine Ev.step (f := fun _ => some (out ++ puts (xs.drop i.toNat))) (fun k => ?_) (Ev.now _)
    simp only [wire_Put.l0]
    rw [if_neg (by omega), List.drop_of_length_le (by omega)]
    simp [puts]
  | m + 1, i, out, h0, hm, hl => by
    obtain ⟨a, r, e1, e2, e3, e4⟩ := rd_get xs i h0 (by omega)
    have hw : wrap64 (i + 1) = i + 1 := by unfold wrap64; omega
    have hv := vnt_length 9 a
    have ih := wput0 xs hx hxl m (i + 1) (out ++ vnt 9 a) (by omega) (by omega) (by simp; omega)
    have h1 := wput1 9 a out xs (xs.length : Int) i (out ++ vnt 9 a ++ puts (xs.drop (i + 1).toNat)) (hx a e4).1 (by rw [pow10]; have := (hx a e4).2; omega) (by omega) (by rw [hw]; exact ih)
    have e : out ++ puts (xs.drop i.toNat) = out ++ vnt 9 a ++ puts (xs.drop (i + 1).toNat) := by rw [e2, e3]; simp [puts]
    rw [e]
    refine Ev.step (f := fun k => wire_Put.l1 k out a xs (xs.length : Int) i) (fun k => ?_) h1
    simp only [wire_Put.l0]
    rw [if_pos (by omega), if_pos h0, if_pos (by omega), e1]
theorem wput (xs : List Int) (hx : ∀ x ∈ xs, inU x) (hxl : xs.length ≤ 1000000000) : Ev (fun k => wire_Put.f k xs) (puts xs) := by
  have h := wput0 xs hx hxl xs.length 0 [] (by omega) (by omega) (by simp; omega)
  simpa [wire_Put.f] using h
end Go.Proofs.Ytppfkbigeknedaa.Q
