/- Entries read from bytes, in plain lists: the document's functions come to these. -/
import Derived.Test.YtppfkbigeknedaaKOneLaws
import Derived.Test.YtppfkbigeknedaaKQdunnageref22Read
namespace Go.Proofs.Ytppfkbigeknedaa.Q
open Go.RowKit Go.Proofs.YtppfkbigeknedaaW.PrintWords Go.Proofs.YtppfkbigeknedaaW.PrintMore
set_option linter.unusedVariables false
set_option linter.unusedSimpArgs false
def allF : Nat → List Int → Option (List Int)
  | _, [] => some []
  | 0, _ :: _ => none
  | f + 1, x :: r => (oneG 9 (x :: r)).bind fun p => (allF f ((x :: r).drop p.2)).map fun ns => p.1 :: ns
def allL (b : List Int) : Option (List Int) := allF b.length b
def toMoves : List Int → List S130
  | a :: b :: c :: d :: r => ⟨a, b, c, d⟩ :: toMoves r
  | _ => []
def movesOf : List Int → Option (List S130)
  | [] => none
  | c :: r => if c ≤ 40 ∧ (r.length : Int) = 4 * c ∧ r.all (fun n => decide (n ≤ 2147483647)) = true then some (toMoves r) else none
def readMovesL (b : List Int) : Option (List S130) := (allL b).bind movesOf
def tailE (a : Int) : List Int → Option S60
  | [n] => if 2 ≤ a ∧ a ≤ 4 ∧ 1 ≤ n ∧ n ≤ 40 then some ⟨a, n, []⟩ else none
  | _ => none
def readE (b : List Int) : Option S60 :=
  (oneG 9 b).bind fun p => if p.1 = 1 then (readMovesL (b.drop p.2)).map fun m => ⟨1, 0, m⟩ else (allL (b.drop p.2)).bind (tailE p.1)
def firstL (b : List Int) : Option (S60 × Nat) :=
  (oneG 9 b).bind fun p => if p.1 ≤ (b.length : Int) - p.2 then (readE ((b.drop p.2).take p.1.toNat)).map fun e => (e, p.2 + p.1.toNat) else none
def readF : Nat → List Int → List S60 × Nat
  | 0, _ => ([], 0)
  | f + 1, b => match firstL b with
    | none => ([], 0)
    | some (e, n) => (e :: (readF f (b.drop n)).1, n + (readF f (b.drop n)).2)
def readAll (b : List Int) : List S60 × Nat := readF b.length b
def Bytes (b : List Int) : Prop := ∀ x ∈ b, isByte x
theorem one9 (b : List Int) (hb : Bytes b) (m : Int) (l : Nat) (h : oneG 9 b = some (m, l)) : 0 ≤ m ∧ m < 18446744073709551616 ∧ 1 ≤ l ∧ l ≤ b.length := by
  have h := oneG_bounds 9 b hb m l h
  rw [pow9] at h
  exact h
theorem Bytes.drop {b : List Int} (h : Bytes b) (n : Nat) : Bytes (b.drop n) := fun x hx => h x (List.mem_of_mem_drop hx)
theorem Bytes.take {b : List Int} (h : Bytes b) (n : Nat) : Bytes (b.take n) := fun x hx => h x (List.mem_of_mem_take hx)
theorem all_in : ∀ (f : Nat) (b : List Int), Bytes b → ∀ ns, allF f b = some ns → ns.length ≤ b.length ∧ ∀ n ∈ ns, 0 ≤ n ∧ n < 18446744073709551616
  | _, [], _, ns, h => by
    simp only [allF, Option.some.injEq] at h
    subst h
    simp
  | 0, x :: r, _, ns, h => by simp [allF] at h
  | f + 1, x :: r, hb, ns, h => by
    unfold allF at h
    obtain ⟨p, h1, h2⟩ := Option.bind_eq_some_iff.1 h
    obtain ⟨ms, h3, rfl⟩ := Option.map_eq_some_iff.1 h2
    have hbd := one9 (x :: r) hb p.1 p.2 h1
    have ih := all_in f _ (Bytes.drop hb p.2) ms h3
    rw [List.length_drop] at ih
    have hp := hbd.2.1
    refine ⟨by simp only [List.length_cons] at *; omega, fun n hn => ?_⟩
    rcases List.mem_cons.1 hn with rfl | hn
    · exact ⟨hbd.1, hp⟩
    · exact ih.2 n hn
theorem allL_in (b : List Int) (hb : Bytes b) (ns : List Int) (h : allL b = some ns) : ns.length ≤ b.length ∧ ∀ n ∈ ns, 0 ≤ n ∧ n < 18446744073709551616 := all_in _ b hb ns h
theorem toMoves_len : ∀ (n : Nat) (r : List Int), r.length = 4 * n → (toMoves r).length = n
  | 0, r, h => by
    have : r = [] := List.eq_nil_of_length_eq_zero (by omega)
    subst this
    rfl
  | n + 1, a :: b :: c :: d :: r, h => by
    simp only [List.length_cons] at h
    simp only [toMoves, List.length_cons]
    rw [toMoves_len n r (by omega)]
theorem first_bounds (b : List Int) (hb : Bytes b) (e : S60) (n : Nat) (h : firstL b = some (e, n)) : 1 ≤ n ∧ n ≤ b.length := by
  unfold firstL at h
  obtain ⟨p, h1, h2⟩ := Option.bind_eq_some_iff.1 h
  have hbd := one9 b hb p.1 p.2 h1
  split at h2
  · obtain ⟨e', h3, h4⟩ := Option.map_eq_some_iff.1 h2
    simp only [Prod.mk.injEq] at h4
    omega
  · cases h2
theorem wA (a l : Nat) (h : a + l ≤ 2000000) : wrap64 ((a : Int) + (l : Int)) = ((a + l : Nat) : Int) := by unfold wrap64; omega
theorem wB1 (n a : Nat) (h : a ≤ n) (hn : n ≤ 1000000) : wrap64 ((n : Int) - (a : Int)) = ((n - a : Nat) : Int) := by unfold wrap64; omega
theorem wB2 (n : Nat) (hn : n ≤ 1000000) : IntKind.u64.wrap (n : Int) = (n : Int) := by rw [IntKind.wrap_u64]; omega
theorem wC (x : Int) (h0 : 0 ≤ x) (h1 : x ≤ 1000000) : wrap64 x = ((x.toNat : Nat) : Int) := by unfold wrap64; omega
end Go.Proofs.Ytppfkbigeknedaa.Q
