/- slices.SortStableFunc of pods, by hand: what the Go code comes to, as functions of arrays; a permutation. -/
import Derived.Test.YtppfkbigeknedaaVQ0
import Derived.Shelf.SlSortCmp.InsertionK
import Derived.Sort.Lot0
import Derived.StillTailTactics
namespace Go.Proofs.Ytppfkbigeknedaa.Q
open Go.Shelf Go.RowKit Go.Lib Go.Sort
set_option linter.unusedVariables false
set_option linter.unusedSimpArgs false
set_option maxRecDepth 100000
instance : Inhabited S70 := ⟨z70⟩
def encP (x : S70) : List Value := [.int .i64 x.f0, .int .i64 x.f1, .int .i64 x.f2, .int .u64 x.f3.f0, .int .u64 x.f3.f1, .int .u64 x.f3.f2, .int .u64 x.f3.f3, .int .i64 x.f4]
theorem encP_len (x : S70) : (encP x).length = 8 := rfl
theorem encP_one (x : S70) : ∀ v ∈ encP x, v.oneCell' = true := by
  intro v hv
  simp only [encP, List.mem_cons, List.not_mem_nil, or_false] at hv
  rcases hv with rfl | rfl | rfl | rfl | rfl | rfl | rfl | rfl <;> rfl
def swr (a b : Nat) : Nat → Nat → Array S70 → Array S70
  | 0, _, d => d
  | n + 1, i, d => swr a b n (i + 1) (swp d (a + i) (b + i))
def insRen : Ren := ⟨fun x => if x = 20 then 139 else x, fun x => if x = 22 then 24 else if x = 24 then 70 else if x = 25 then 138 else x, fun x => x⟩
theorem insL : SlLaysF0.n20 Try.prog insRen := {
  mixed := by kernel_rfl
  f20 := ⟨Try.f139.name, by decide, Try.func139.trans (by kernel_rfl)⟩
  t0 := by kernel_rfl
  a0 := fun w => by kernel_rfl
  z0 := fun w => by kernel_rfl
  v0 := fun w => by kernel_rfl
  t3 := by kernel_rfl
  a3 := fun w => by kernel_rfl
  z3 := fun w => by kernel_rfl
  v3 := fun w => by kernel_rfl
  t4 := by kernel_rfl
  a4 := fun w => by kernel_rfl
  z4 := fun w => by kernel_rfl
  v4 := fun w => by kernel_rfl
  t22 := by kernel_rfl
  a22 := fun w => by kernel_rfl
  z22 := fun w => by kernel_rfl
  v22 := fun w => by kernel_rfl
  t25 := by kernel_rfl
  a25 := fun w => by kernel_rfl
  z25 := fun w => by kernel_rfl
  v25 := fun w => by kernel_rfl }
theorem cells8 {W : World} {blk : Nat} {dj : Array S70} (h : HoldsK encP 8 W blk 0 dj) {i : Nat} {x : S70} (hi : i < dj.size) (hx : dj[i]! = x) :
    (W.cell? ⟨blk, i * 8, none⟩ = some (.int .i64 x.f0) ∧ W.cell? ⟨blk, i * 8 + 1, none⟩ = some (.int .i64 x.f1) ∧ W.cell? ⟨blk, i * 8 + 2, none⟩ = some (.int .i64 x.f2) ∧ W.cell? ⟨blk, i * 8 + 3, none⟩ = some (.int .u64 x.f3.f0) ∧
    W.cell? ⟨blk, i * 8 + 4, none⟩ = some (.int .u64 x.f3.f1) ∧ W.cell? ⟨blk, i * 8 + 5, none⟩ = some (.int .u64 x.f3.f2) ∧ W.cell? ⟨blk, i * 8 + 6, none⟩ = some (.int .u64 x.f3.f3) ∧ W.cell? ⟨blk, i * 8 + 7, none⟩ = some (.int .i64 x.f4)) ∧
    (W.frozen? ⟨blk, i * 8, none⟩ = false ∧ W.frozen? ⟨blk, i * 8 + 1, none⟩ = false ∧ W.frozen? ⟨blk, i * 8 + 2, none⟩ = false ∧ W.frozen? ⟨blk, i * 8 + 3, none⟩ = false ∧
    W.frozen? ⟨blk, i * 8 + 4, none⟩ = false ∧ W.frozen? ⟨blk, i * 8 + 5, none⟩ = false ∧ W.frozen? ⟨blk, i * 8 + 6, none⟩ = false ∧ W.frozen? ⟨blk, i * 8 + 7, none⟩ = false) := by
  have hc : ∀ c, c < 8 → W.cell? ⟨blk, i * 8 + c, none⟩ = some ((encP x)[c]!) ∧ W.frozen? ⟨blk, i * 8 + c, none⟩ = false := by
    intro c hc
    have := HoldsK.cell h hi hc
    rw [hx] at this
    simpa using this
  refine ⟨⟨(hc 0 (by omega)).1, (hc 1 (by omega)).1, (hc 2 (by omega)).1, (hc 3 (by omega)).1, (hc 4 (by omega)).1, (hc 5 (by omega)).1, (hc 6 (by omega)).1, (hc 7 (by omega)).1⟩,
    ⟨(hc 0 (by omega)).2, (hc 1 (by omega)).2, (hc 2 (by omega)).2, (hc 3 (by omega)).2, (hc 4 (by omega)).2, (hc 5 (by omega)).2, (hc 6 (by omega)).2, (hc 7 (by omega)).2⟩⟩
theorem set8 (W : World) (blk s : Nat) (x : S70) : W.setCells blk s (encP x) = ((((((((W.setCell ⟨blk, s, none⟩ (.int .i64 x.f0)).setCell ⟨blk, s + 1, none⟩ (.int .i64 x.f1)).setCell ⟨blk, s + 2, none⟩ (.int .i64 x.f2)).setCell ⟨blk, s + 3, none⟩ (.int .u64 x.f3.f0)).setCell ⟨blk, s + 4, none⟩ (.int .u64 x.f3.f1)).setCell ⟨blk, s + 5, none⟩ (.int .u64 x.f3.f2)).setCell ⟨blk, s + 6, none⟩ (.int .u64 x.f3.f3)).setCell ⟨blk, s + 7, none⟩ (.int .i64 x.f4)) := rfl
theorem set16 (W : World) (blk s t : Nat) (x y : S70) : ((((((((((((((((W.setCell ⟨blk, s, none⟩ (.int .i64 x.f0)).setCell ⟨blk, s + 1, none⟩ (.int .i64 x.f1)).setCell ⟨blk, s + 2, none⟩ (.int .i64 x.f2)).setCell ⟨blk, s + 3, none⟩ (.int .u64 x.f3.f0)).setCell ⟨blk, s + 4, none⟩ (.int .u64 x.f3.f1)).setCell ⟨blk, s + 5, none⟩ (.int .u64 x.f3.f2)).setCell ⟨blk, s + 6, none⟩ (.int .u64 x.f3.f3)).setCell ⟨blk, s + 7, none⟩ (.int .i64 x.f4)).setCell ⟨blk, t, none⟩ (.int .i64 y.f0)).setCell ⟨blk, t + 1, none⟩ (.int .i64 y.f1)).setCell ⟨blk, t + 2, none⟩ (.int .i64 y.f2)).setCell ⟨blk, t + 3, none⟩ (.int .u64 y.f3.f0)).setCell ⟨blk, t + 4, none⟩ (.int .u64 y.f3.f1)).setCell ⟨blk, t + 5, none⟩ (.int .u64 y.f3.f2)).setCell ⟨blk, t + 6, none⟩ (.int .u64 y.f3.f3)).setCell ⟨blk, t + 7, none⟩ (.int .i64 y.f4)).drew = (W.drew.setCells blk s (encP x)).setCells blk t (encP y) := by
  rw [set8, set8]
  simp only [World.setCell_drew]
theorem after8 {W : World} {blk : Nat} {F : Array Value} (h : Holds id W blk 0 F) (s : Nat) (x : S70) (hs : s + 8 ≤ F.size) (t : Nat) (ht : t + 8 ≤ F.size) : ∃ v0 v1 v2 v3 v4 v5 v6 v7 : Value,
    (((((((((W.setCell ⟨blk, s, none⟩ (.int .i64 x.f0)).setCell ⟨blk, s + 1, none⟩ (.int .i64 x.f1)).setCell ⟨blk, s + 2, none⟩ (.int .i64 x.f2)).setCell ⟨blk, s + 3, none⟩ (.int .u64 x.f3.f0)).setCell ⟨blk, s + 4, none⟩ (.int .u64 x.f3.f1)).setCell ⟨blk, s + 5, none⟩ (.int .u64 x.f3.f2)).setCell ⟨blk, s + 6, none⟩ (.int .u64 x.f3.f3)).setCell ⟨blk, s + 7, none⟩ (.int .i64 x.f4)).cell? ⟨blk, t, none⟩ = some v0 ∧ ((((((((W.setCell ⟨blk, s, none⟩ (.int .i64 x.f0)).setCell ⟨blk, s + 1, none⟩ (.int .i64 x.f1)).setCell ⟨blk, s + 2, none⟩ (.int .i64 x.f2)).setCell ⟨blk, s + 3, none⟩ (.int .u64 x.f3.f0)).setCell ⟨blk, s + 4, none⟩ (.int .u64 x.f3.f1)).setCell ⟨blk, s + 5, none⟩ (.int .u64 x.f3.f2)).setCell ⟨blk, s + 6, none⟩ (.int .u64 x.f3.f3)).setCell ⟨blk, s + 7, none⟩ (.int .i64 x.f4)).cell? ⟨blk, t + 1, none⟩ = some v1 ∧ ((((((((W.setCell ⟨blk, s, none⟩ (.int .i64 x.f0)).setCell ⟨blk, s + 1, none⟩ (.int .i64 x.f1)).setCell ⟨blk, s + 2, none⟩ (.int .i64 x.f2)).setCell ⟨blk, s + 3, none⟩ (.int .u64 x.f3.f0)).setCell ⟨blk, s + 4, none⟩ (.int .u64 x.f3.f1)).setCell ⟨blk, s + 5, none⟩ (.int .u64 x.f3.f2)).setCell ⟨blk, s + 6, none⟩ (.int .u64 x.f3.f3)).setCell ⟨blk, s + 7, none⟩ (.int .i64 x.f4)).cell? ⟨blk, t + 2, none⟩ = some v2 ∧ ((((((((W.setCell ⟨blk, s, none⟩ (.int .i64 x.f0)).setCell ⟨blk, s + 1, none⟩ (.int .i64 x.f1)).setCell ⟨blk, s + 2, none⟩ (.int .i64 x.f2)).setCell ⟨blk, s + 3, none⟩ (.int .u64 x.f3.f0)).setCell ⟨blk, s + 4, none⟩ (.int .u64 x.f3.f1)).setCell ⟨blk, s + 5, none⟩ (.int .u64 x.f3.f2)).setCell ⟨blk, s + 6, none⟩ (.int .u64 x.f3.f3)).setCell ⟨blk, s + 7, none⟩ (.int .i64 x.f4)).cell? ⟨blk, t + 3, none⟩ = some v3 ∧ ((((((((W.setCell ⟨blk, s, none⟩ (.int .i64 x.f0)).setCell ⟨blk, s + 1, none⟩ (.int .i64 x.f1)).setCell ⟨blk, s + 2, none⟩ (.int .i64 x.f2)).setCell ⟨blk, s + 3, none⟩ (.int .u64 x.f3.f0)).setCell ⟨blk, s + 4, none⟩ (.int .u64 x.f3.f1)).setCell ⟨blk, s + 5, none⟩ (.int .u64 x.f3.f2)).setCell ⟨blk, s + 6, none⟩ (.int .u64 x.f3.f3)).setCell ⟨blk, s + 7, none⟩ (.int .i64 x.f4)).cell? ⟨blk, t + 4, none⟩ = some v4 ∧ ((((((((W.setCell ⟨blk, s, none⟩ (.int .i64 x.f0)).setCell ⟨blk, s + 1, none⟩ (.int .i64 x.f1)).setCell ⟨blk, s + 2, none⟩ (.int .i64 x.f2)).setCell ⟨blk, s + 3, none⟩ (.int .u64 x.f3.f0)).setCell ⟨blk, s + 4, none⟩ (.int .u64 x.f3.f1)).setCell ⟨blk, s + 5, none⟩ (.int .u64 x.f3.f2)).setCell ⟨blk, s + 6, none⟩ (.int .u64 x.f3.f3)).setCell ⟨blk, s + 7, none⟩ (.int .i64 x.f4)).cell? ⟨blk, t + 5, none⟩ = some v5 ∧ ((((((((W.setCell ⟨blk, s, none⟩ (.int .i64 x.f0)).setCell ⟨blk, s + 1, none⟩ (.int .i64 x.f1)).setCell ⟨blk, s + 2, none⟩ (.int .i64 x.f2)).setCell ⟨blk, s + 3, none⟩ (.int .u64 x.f3.f0)).setCell ⟨blk, s + 4, none⟩ (.int .u64 x.f3.f1)).setCell ⟨blk, s + 5, none⟩ (.int .u64 x.f3.f2)).setCell ⟨blk, s + 6, none⟩ (.int .u64 x.f3.f3)).setCell ⟨blk, s + 7, none⟩ (.int .i64 x.f4)).cell? ⟨blk, t + 6, none⟩ = some v6 ∧ ((((((((W.setCell ⟨blk, s, none⟩ (.int .i64 x.f0)).setCell ⟨blk, s + 1, none⟩ (.int .i64 x.f1)).setCell ⟨blk, s + 2, none⟩ (.int .i64 x.f2)).setCell ⟨blk, s + 3, none⟩ (.int .u64 x.f3.f0)).setCell ⟨blk, s + 4, none⟩ (.int .u64 x.f3.f1)).setCell ⟨blk, s + 5, none⟩ (.int .u64 x.f3.f2)).setCell ⟨blk, s + 6, none⟩ (.int .u64 x.f3.f3)).setCell ⟨blk, s + 7, none⟩ (.int .i64 x.f4)).cell? ⟨blk, t + 7, none⟩ = some v7) ∧ (((((((((W.setCell ⟨blk, s, none⟩ (.int .i64 x.f0)).setCell ⟨blk, s + 1, none⟩ (.int .i64 x.f1)).setCell ⟨blk, s + 2, none⟩ (.int .i64 x.f2)).setCell ⟨blk, s + 3, none⟩ (.int .u64 x.f3.f0)).setCell ⟨blk, s + 4, none⟩ (.int .u64 x.f3.f1)).setCell ⟨blk, s + 5, none⟩ (.int .u64 x.f3.f2)).setCell ⟨blk, s + 6, none⟩ (.int .u64 x.f3.f3)).setCell ⟨blk, s + 7, none⟩ (.int .i64 x.f4)).frozen? ⟨blk, t, none⟩ = false ∧ ((((((((W.setCell ⟨blk, s, none⟩ (.int .i64 x.f0)).setCell ⟨blk, s + 1, none⟩ (.int .i64 x.f1)).setCell ⟨blk, s + 2, none⟩ (.int .i64 x.f2)).setCell ⟨blk, s + 3, none⟩ (.int .u64 x.f3.f0)).setCell ⟨blk, s + 4, none⟩ (.int .u64 x.f3.f1)).setCell ⟨blk, s + 5, none⟩ (.int .u64 x.f3.f2)).setCell ⟨blk, s + 6, none⟩ (.int .u64 x.f3.f3)).setCell ⟨blk, s + 7, none⟩ (.int .i64 x.f4)).frozen? ⟨blk, t + 1, none⟩ = false ∧ ((((((((W.setCell ⟨blk, s, none⟩ (.int .i64 x.f0)).setCell ⟨blk, s + 1, none⟩ (.int .i64 x.f1)).setCell ⟨blk, s + 2, none⟩ (.int .i64 x.f2)).setCell ⟨blk, s + 3, none⟩ (.int .u64 x.f3.f0)).setCell ⟨blk, s + 4, none⟩ (.int .u64 x.f3.f1)).setCell ⟨blk, s + 5, none⟩ (.int .u64 x.f3.f2)).setCell ⟨blk, s + 6, none⟩ (.int .u64 x.f3.f3)).setCell ⟨blk, s + 7, none⟩ (.int .i64 x.f4)).frozen? ⟨blk, t + 2, none⟩ = false ∧ ((((((((W.setCell ⟨blk, s, none⟩ (.int .i64 x.f0)).setCell ⟨blk, s + 1, none⟩ (.int .i64 x.f1)).setCell ⟨blk, s + 2, none⟩ (.int .i64 x.f2)).setCell ⟨blk, s + 3, none⟩ (.int .u64 x.f3.f0)).setCell ⟨blk, s + 4, none⟩ (.int .u64 x.f3.f1)).setCell ⟨blk, s + 5, none⟩ (.int .u64 x.f3.f2)).setCell ⟨blk, s + 6, none⟩ (.int .u64 x.f3.f3)).setCell ⟨blk, s + 7, none⟩ (.int .i64 x.f4)).frozen? ⟨blk, t + 3, none⟩ = false ∧ ((((((((W.setCell ⟨blk, s, none⟩ (.int .i64 x.f0)).setCell ⟨blk, s + 1, none⟩ (.int .i64 x.f1)).setCell ⟨blk, s + 2, none⟩ (.int .i64 x.f2)).setCell ⟨blk, s + 3, none⟩ (.int .u64 x.f3.f0)).setCell ⟨blk, s + 4, none⟩ (.int .u64 x.f3.f1)).setCell ⟨blk, s + 5, none⟩ (.int .u64 x.f3.f2)).setCell ⟨blk, s + 6, none⟩ (.int .u64 x.f3.f3)).setCell ⟨blk, s + 7, none⟩ (.int .i64 x.f4)).frozen? ⟨blk, t + 4, none⟩ = false ∧ ((((((((W.setCell ⟨blk, s, none⟩ (.int .i64 x.f0)).setCell ⟨blk, s + 1, none⟩ (.int .i64 x.f1)).setCell ⟨blk, s + 2, none⟩ (.int .i64 x.f2)).setCell ⟨blk, s + 3, none⟩ (.int .u64 x.f3.f0)).setCell ⟨blk, s + 4, none⟩ (.int .u64 x.f3.f1)).setCell ⟨blk, s + 5, none⟩ (.int .u64 x.f3.f2)).setCell ⟨blk, s + 6, none⟩ (.int .u64 x.f3.f3)).setCell ⟨blk, s + 7, none⟩ (.int .i64 x.f4)).frozen? ⟨blk, t + 5, none⟩ = false ∧ ((((((((W.setCell ⟨blk, s, none⟩ (.int .i64 x.f0)).setCell ⟨blk, s + 1, none⟩ (.int .i64 x.f1)).setCell ⟨blk, s + 2, none⟩ (.int .i64 x.f2)).setCell ⟨blk, s + 3, none⟩ (.int .u64 x.f3.f0)).setCell ⟨blk, s + 4, none⟩ (.int .u64 x.f3.f1)).setCell ⟨blk, s + 5, none⟩ (.int .u64 x.f3.f2)).setCell ⟨blk, s + 6, none⟩ (.int .u64 x.f3.f3)).setCell ⟨blk, s + 7, none⟩ (.int .i64 x.f4)).frozen? ⟨blk, t + 6, none⟩ = false ∧ ((((((((W.setCell ⟨blk, s, none⟩ (.int .i64 x.f0)).setCell ⟨blk, s + 1, none⟩ (.int .i64 x.f1)).setCell ⟨blk, s + 2, none⟩ (.int .i64 x.f2)).setCell ⟨blk, s + 3, none⟩ (.int .u64 x.f3.f0)).setCell ⟨blk, s + 4, none⟩ (.int .u64 x.f3.f1)).setCell ⟨blk, s + 5, none⟩ (.int .u64 x.f3.f2)).setCell ⟨blk, s + 6, none⟩ (.int .u64 x.f3.f3)).setCell ⟨blk, s + 7, none⟩ (.int .i64 x.f4)).frozen? ⟨blk, t + 7, none⟩ = false) := by
  have hN := holds_setCells_c h s (encP x) (by rw [encP_len]; exact hs)
  rw [Nat.zero_add, set8] at hN
  have hc : ∀ c, c < 8 → ∃ v, ((((((((W.setCell ⟨blk, s, none⟩ (.int .i64 x.f0)).setCell ⟨blk, s + 1, none⟩ (.int .i64 x.f1)).setCell ⟨blk, s + 2, none⟩ (.int .i64 x.f2)).setCell ⟨blk, s + 3, none⟩ (.int .u64 x.f3.f0)).setCell ⟨blk, s + 4, none⟩ (.int .u64 x.f3.f1)).setCell ⟨blk, s + 5, none⟩ (.int .u64 x.f3.f2)).setCell ⟨blk, s + 6, none⟩ (.int .u64 x.f3.f3)).setCell ⟨blk, s + 7, none⟩ (.int .i64 x.f4)).cell? ⟨blk, t + c, none⟩ = some v ∧ ((((((((W.setCell ⟨blk, s, none⟩ (.int .i64 x.f0)).setCell ⟨blk, s + 1, none⟩ (.int .i64 x.f1)).setCell ⟨blk, s + 2, none⟩ (.int .i64 x.f2)).setCell ⟨blk, s + 3, none⟩ (.int .u64 x.f3.f0)).setCell ⟨blk, s + 4, none⟩ (.int .u64 x.f3.f1)).setCell ⟨blk, s + 5, none⟩ (.int .u64 x.f3.f2)).setCell ⟨blk, s + 6, none⟩ (.int .u64 x.f3.f3)).setCell ⟨blk, s + 7, none⟩ (.int .i64 x.f4)).frozen? ⟨blk, t + c, none⟩ = false := by
    intro c hc
    have := hN (t + c) (by rw [size_setMany]; omega)
    rw [Nat.zero_add] at this
    exact ⟨_, this.1, this.2⟩
  obtain ⟨v0, a0, b0⟩ := hc 0 (by omega)
  obtain ⟨v1, a1, b1⟩ := hc 1 (by omega)
  obtain ⟨v2, a2, b2⟩ := hc 2 (by omega)
  obtain ⟨v3, a3, b3⟩ := hc 3 (by omega)
  obtain ⟨v4, a4, b4⟩ := hc 4 (by omega)
  obtain ⟨v5, a5, b5⟩ := hc 5 (by omega)
  obtain ⟨v6, a6, b6⟩ := hc 6 (by omega)
  obtain ⟨v7, a7, b7⟩ := hc 7 (by omega)
  exact ⟨_, _, _, _, _, _, _, _, ⟨a0, a1, a2, a3, a4, a5, a6, a7⟩, ⟨b0, b1, b2, b3, b4, b5, b6, b7⟩⟩
theorem swr_size (a b : Nat) : ∀ (n i : Nat) (d : Array S70), (swr a b n i d).size = d.size
  | 0, _, _ => rfl
  | n + 1, i, d => by rw [swr, swr_size a b n]; exact size_swp _ _ _
section
variable (w : World) (blk cap : Nat)
set_option maxHeartbeats 4000000 in
theorem swapRange_pod (cmp : Value) (a b n : Nat) (d : Array S70) (m0 : Nat) (os : Array Obj) (hH : HoldsK encP 8 w blk 0 d) (hblk : blk < w.heap.size) (dk : Array S70) (hs : dk.size = d.size) (ha : a + n ≤ d.size) (hb : b + n ≤ d.size) (hsz : d.size < 4611686018427387904) :
    Calls Try.prog 167 #[.slice (some ⟨blk, 0, none⟩) d.size cap, .int .i64 a, .int .i64 b, .int .i64 n, cmp] (sortWorldK encP 8 w blk 0 m0 dk os) fun e w' =>
      e = .returned (.tuple #[]) ∧ ∃ m, w' = sortWorldK encP 8 w blk 0 m (swr a b n 0 dk) os := by
  have HH : Hid (HoldsK encP 8 w blk 0 d) := hH
  have HSZ : Hid (dk.size = d.size) := hs
  clear hH hs
  have mixed : Try.prog.follows .mixedOrders = true := by kernel_rfl
  go_enter Try.func167, Try.ntmps167
  go_wp2
  go_loopg [10] n (fun g1 vi wr => ∃ (i m : Nat) (dj : Array S70), vi = .int .i64 i ∧ i ≤ n ∧ n - i ≤ g1 ∧ Hid (dj.size = d.size) ∧ wr = sortWorldK encP 8 w blk 0 m dj os ∧ Hid (swr a b (n - i) i dj = swr a b n 0 dk))
  case atStart => exact ⟨0, m0, dk, rfl, by omega, by omega, HSZ, rfl, rfl⟩
  case round =>
    obtain ⟨i, m, dj, rfl, hin, hg1, HSJ, rfl, HO⟩ := hrel
    by_cases hlt : i < n
    · have hltz : (i : Int) < (n : Int) := by omega
      obtain ⟨xa, hxa⟩ : ∃ x, dj[a + i]! = x := ⟨_, rfl⟩
      obtain ⟨xb, hxb⟩ : ∃ x, dj[b + i]! = x := ⟨_, rfl⟩
      have j1 : (a : Int) + (i : Int) < (d.size : Int) := by omega
      have j2 : (b : Int) + (i : Int) < (d.size : Int) := by omega
      have p1 : (0 : Int) ≤ (a : Int) + (i : Int) := by omega
      have p2 : (0 : Int) ≤ (b : Int) + (i : Int) := by omega
      have e1 : ((a : Int) + (i : Int)).toNat = a + i := by omega
      have e2 : ((b : Int) + (i : Int)).toNat = b + i := by omega
      have hHd := holdsK_sortWorldK_c encP 8 w blk 0 d dj m os HH.out hblk HSJ.out
      have HSW : Hid (((sortWorldK encP 8 w blk 0 m dj os).drew.setCells blk ((a + i) * 8) (encP xb)).setCells blk ((b + i) * 8) (encP xa) = sortWorldK encP 8 w blk 0 (m + 1) (swp dj (a + i) (b + i)) os) := by
        show _ = _
        rw [← hxa, ← hxb]
        have := sortWorldK_swp_c encP 8 w blk 0 encP_len m dj os hblk (a + i) (b + i) (by rw [HSJ.out]; omega) (by rw [HSJ.out]; omega)
        simpa using this
      generalize hwq : sortWorldK encP 8 w blk 0 m dj os = wq at hHd HSW ⊢
      obtain ⟨⟨la0, la1, la2, la3, la4, la5, la6, la7⟩, fa0, fa1, fa2, fa3, fa4, fa5, fa6, fa7⟩ := cells8 hHd (i := a + i) (by rw [HSJ.out]; omega) hxa
      obtain ⟨⟨lb0, lb1, lb2, lb3, lb4, lb5, lb6, lb7⟩, fb0, fb1, fb2, fb3, fb4, fb5, fb6, fb7⟩ := cells8 hHd (i := b + i) (by rw [HSJ.out]; omega) hxb
      have hsd := HSJ.out
      obtain ⟨w0, w1, w2, w3, w4, w5, w6, w7, ⟨lb0', lb1', lb2', lb3', lb4', lb5', lb6', lb7'⟩, fb0', fb1', fb2', fb3', fb4', fb5', fb6', fb7'⟩ := after8 hHd ((a + i) * 8) xb (by rw [size_flatK]; omega) ((b + i) * 8) (by rw [size_flatK]; omega)
      clear hHd hsd
      have HWQ : Hid _ := hwq
      clear hwq
      have HXA : Hid _ := hxa
      have HXB : Hid _ := hxb
      clear hxa hxb
      go_wp2
      go_big_region
      all_goals go_wp2
      go_roundg (n - (i + 1))
      case measure => omega
      case rel => exact ⟨i + 1, m + 1, swp dj (a + i) (b + i), by go_num, by omega, by omega, (by show _ = _; rw [size_swp]; exact HSJ.out), (set16 _ _ _ _ _ _).trans HSW.out, (by show _ = _; rw [← HO.out, show n - i = (n - (i + 1)) + 1 by omega, swr])⟩
    · have hltz : ¬ (i : Int) < (n : Int) := by omega
      obtain rfl : i = n := by omega
      go_wp2
      go_end0
      exact ⟨rfl, m, by rw [← HO.out, Nat.sub_self, swr]⟩
end
end Go.Proofs.Ytppfkbigeknedaa.Q
namespace Go.Proofs.Ytppfkbigeknedaa.Q
open Go.Shelf Go.RowKit Go.Lib Go.Sort
set_option linter.unusedVariables false
set_option linter.unusedSimpArgs false
set_option maxRecDepth 100000
def rotF (m : Nat) : Nat → Nat → Nat → Array S70 → Array S70
  | 0, _, _, d => d
  | k + 1, i, j, d => if i = j then swr (m - i) m i 0 d else if j < i then rotF m k (i - j) j (swr (m - i) m j 0 d) else rotF m k i (j - i) (swr (m - i) (m + j - i) i 0 d)
theorem rotF_size (m : Nat) : ∀ (k i j : Nat) (d : Array S70), (rotF m k i j d).size = d.size
  | 0, _, _, _ => rfl
  | k + 1, i, j, d => by
    unfold rotF
    split
    · exact swr_size _ _ _ _ _
    split
    · rw [rotF_size m k, swr_size]
    · rw [rotF_size m k, swr_size]
theorem rotF_eq {m k i j : Nat} {d : Array S70} (h : i = j) : rotF m (k + 1) i j d = swr (m - i) m i 0 d := by rw [rotF, if_pos h]
theorem rotF_gt {m k i j : Nat} {d : Array S70} (h : ¬ i = j) (h2 : j < i) : rotF m (k + 1) i j d = rotF m k (i - j) j (swr (m - i) m j 0 d) := by rw [rotF, if_neg h, if_pos h2]
theorem rotF_lt {m k i j : Nat} {d : Array S70} (h : ¬ i = j) (h2 : ¬ j < i) : rotF m (k + 1) i j d = rotF m k i (j - i) (swr (m - i) (m + j - i) i 0 d) := by rw [rotF, if_neg h, if_neg h2]
section
variable (w : World) (blk cap : Nat)
theorem swapRange_at (cmp : Value) (A B N : Int) (a b n : Nat) (hA : A = a) (hB : B = b) (hN : N = n) (d : Array S70) (m0 : Nat) (os : Array Obj) (hH : HoldsK encP 8 w blk 0 d) (hblk : blk < w.heap.size) (dk : Array S70) (hs : dk.size = d.size) (ha : a + n ≤ d.size) (hb : b + n ≤ d.size) (hsz : d.size < 4611686018427387904) :
    Calls Try.prog 167 #[.slice (some ⟨blk, 0, none⟩) d.size cap, .int .i64 A, .int .i64 B, .int .i64 N, cmp] (sortWorldK encP 8 w blk 0 m0 dk os) fun e w' =>
      e = .returned (.tuple #[]) ∧ ∃ m, w' = sortWorldK encP 8 w blk 0 m (swr a b n 0 dk) os := by
  subst hA hB hN
  exact swapRange_pod w blk cap cmp a b n d m0 os hH hblk dk hs ha hb hsz
set_option maxHeartbeats 4000000 in
theorem rotate_pod (cmp : Value) (a m b : Nat) (d : Array S70) (m0 : Nat) (os : Array Obj) (hH : HoldsK encP 8 w blk 0 d) (hblk : blk < w.heap.size) (dk : Array S70) (hs : dk.size = d.size) (ham : a < m) (hmb : m < b) (hb : b ≤ d.size) (hsz : d.size < 4611686018427387904) :
    Calls Try.prog 152 #[.slice (some ⟨blk, 0, none⟩) d.size cap, .int .i64 a, .int .i64 m, .int .i64 b, cmp] (sortWorldK encP 8 w blk 0 m0 dk os) fun e w' =>
      e = .returned (.tuple #[]) ∧ ∃ n, w' = sortWorldK encP 8 w blk 0 n (rotF m (b - a) (m - a) (b - m) dk) os := by
  have HH : Hid (HoldsK encP 8 w blk 0 d) := hH
  have HSZ : Hid (dk.size = d.size) := hs
  clear hH hs
  have mixed : Try.prog.follows .mixedOrders = true := by kernel_rfl
  go_enter Try.func152, Try.ntmps152
  go_wp2
  go_loopg [10, 11] (b - a) (fun g1 vi vj wr => ∃ (i j n : Nat) (dj : Array S70), vi = .int .i64 i ∧ vj = .int .i64 j ∧ 1 ≤ i ∧ 1 ≤ j ∧ i ≤ m ∧ m + j ≤ d.size ∧ i + j ≤ g1 ∧ Hid (dj.size = d.size) ∧ wr = sortWorldK encP 8 w blk 0 n dj os ∧ Hid (rotF m g1 i j dj = rotF m (b - a) (m - a) (b - m) dk))
  case atStart => exact ⟨m - a, b - m, m0, dk, by congr 1; omega, by congr 1; omega, by omega, by omega, by omega, by omega, by omega, HSZ, rfl, rfl⟩
  case round =>
    obtain ⟨i, j, n, dj, rfl, rfl, hi1, hj1, him, hmj, hg1, HSJ, rfl, HO⟩ := hrel
    obtain ⟨g, rfl⟩ : ∃ g, gk = g + 1 := ⟨gk - 1, by omega⟩
    by_cases hne : i = j
    · have hb1 : ((i : Int) != (j : Int)) = false := by simp [hne]
      have hO := HO.out
      rw [rotF_eq hne] at hO
      have HO2 : Hid _ := hO
      clear hO HO
      have HNE : Hid (i = j) := hne
      clear hne
      go_wp2_with fail
      refine (swapRange_at w blk cap cmp _ _ _ (m - i) m i (by omega) rfl rfl d n os HH.out hblk dj HSJ.out (by omega) (by have := HNE.out; omega) hsz).mono ?_
      rintro e w1 ⟨rfl, n1, rfl⟩
      go_wp2
      go_end0
      exact ⟨rfl, n1, by rw [← HO2.out]⟩
    · have hb1 : ((i : Int) != (j : Int)) = true := by simp; omega
      by_cases hlt : j < i
      · have hO := HO.out
        rw [rotF_gt hne hlt] at hO
        have HO2 : Hid _ := hO
        clear hO HO
        have hltz : (j : Int) < (i : Int) := by omega
        go_wp2_with fail
        refine (swapRange_at w blk cap cmp _ _ _ (m - i) m j (by omega) rfl rfl d n os HH.out hblk dj HSJ.out (by omega) (by omega) hsz).mono ?_
        rintro e w1 ⟨rfl, n1, rfl⟩
        go_wp2
        go_roundg g
        case measure => omega
        case rel => exact ⟨i - j, j, n1, _, by congr 1; omega, rfl, by omega, by omega, by omega, by omega, by omega, (by show _ = _; rw [swr_size]; exact HSJ.out), rfl, HO2⟩
      · have hO := HO.out
        rw [rotF_lt hne hlt] at hO
        have HO2 : Hid _ := hO
        clear hO HO
        have hltz : ¬ (j : Int) < (i : Int) := by omega
        go_wp2_with fail
        refine (swapRange_at w blk cap cmp _ _ _ (m - i) (m + j - i) i (by omega) (by omega) rfl d n os HH.out hblk dj HSJ.out (by omega) (by omega) hsz).mono ?_
        rintro e w1 ⟨rfl, n1, rfl⟩
        go_wp2
        go_roundg g
        case measure => omega
        case rel => exact ⟨i, j - i, n1, _, rfl, by congr 1; omega, by omega, by omega, by omega, by omega, by omega, (by show _ = _; rw [swr_size]; exact HSJ.out), rfl, HO2⟩
end
end Go.Proofs.Ytppfkbigeknedaa.Q
namespace Go.Proofs.Ytppfkbigeknedaa.Q
open Go.Shelf Go.RowKit Go.Lib Go.Sort
set_option linter.unusedVariables false
set_option linter.unusedSimpArgs false
set_option maxRecDepth 100000
def bsF (p : Nat → Bool) : Nat → Nat → Nat → Nat
  | 0, i, _ => i
  | k + 1, i, j => if i < j then (if p ((i + j) / 2) = true then bsF p k ((i + j) / 2 + 1) j else bsF p k i ((i + j) / 2)) else i
theorem bsF_done {p : Nat → Bool} {k i j : Nat} (h : ¬ i < j) : bsF p k i j = i := by
  cases k with
  | zero => rfl
  | succ k => rw [bsF, if_neg h]
theorem bsF_yes {p : Nat → Bool} {k i j : Nat} (h : i < j) (hp : p ((i + j) / 2) = true) : bsF p (k + 1) i j = bsF p k ((i + j) / 2 + 1) j := by rw [bsF, if_pos h, if_pos hp]
theorem bsF_no {p : Nat → Bool} {k i j : Nat} (h : i < j) (hp : p ((i + j) / 2) = false) : bsF p (k + 1) i j = bsF p k i ((i + j) / 2) := by rw [bsF, if_pos h, if_neg (by simp [hp])]
theorem bsF_in (p : Nat → Bool) : ∀ (k i j : Nat), i ≤ j → i ≤ bsF p k i j ∧ bsF p k i j ≤ j
  | 0, i, j, h => ⟨Nat.le_refl _, h⟩
  | k + 1, i, j, h => by
    unfold bsF
    split
    · split
      · have := bsF_in p k ((i + j) / 2 + 1) j (by omega); omega
      · have := bsF_in p k i ((i + j) / 2) (by omega); omega
    · exact ⟨Nat.le_refl _, h⟩
def swUp : Nat → Nat → Array S70 → Array S70
  | 0, _, d => d
  | n + 1, k, d => swUp n (k + 1) (swp d k (k + 1))
def swDn : Nat → Nat → Array S70 → Array S70
  | 0, _, d => d
  | n + 1, k, d => swDn n (k - 1) (swp d k (k - 1))
theorem swUp_size : ∀ (n k : Nat) (d : Array S70), (swUp n k d).size = d.size
  | 0, _, _ => rfl
  | n + 1, k, d => by rw [swUp, swUp_size n]; exact size_swp _ _ _
theorem swDn_size : ∀ (n k : Nat) (d : Array S70), (swDn n k d).size = d.size
  | 0, _, _ => rfl
  | n + 1, k, d => by rw [swDn, swDn_size n]; exact size_swp _ _ _
def symM (lt : S70 → S70 → Bool) : Nat → Nat → Nat → Nat → Array S70 → Array S70
  | 0, _, _, _, d => d
  | k + 1, a, m, b, d =>
    if m - a = 1 then swUp (bsF (fun h => lt d[h]! d[a]!) (b - m) m b - 1 - a) a d
    else if b - m = 1 then swDn (m - bsF (fun h => !lt d[m]! d[h]!) (m - a) a m) m d
    else
      let mid := (a + b) / 2
      let s0 := if mid < m then mid + m - b else a
      let r0 := if mid < m then mid else m
      let s := bsF (fun c => !lt d[mid + m - 1 - c]! d[c]!) (r0 - s0) s0 r0
      let e := mid + m - s
      let d1 := if s < m ∧ m < e then rotF m (e - s) (m - s) (e - m) d else d
      let d2 := if a < s ∧ s < mid then symM lt k a s mid d1 else d1
      if mid < e ∧ e < b then symM lt k mid e b d2 else d2
section
variable (w : World) (blk cap : Nat) (g : Nat) (cb : Array Value) (cf : S70 → S70 → Int)
set_option maxHeartbeats 4000000 in
theorem symMerge_one (eg : ∀ args w, (callFunc g args).run Try.prog w = .ok (.enter g args) w) (k a m b : Nat) (d : Array S70) (m0 : Nat) (os : Array Obj) (hcmp : CmpLays Try.prog g cb encP 8 cf blk 0 d.size w) (hH : HoldsK encP 8 w blk 0 d) (hblk : blk < w.heap.size) (dk : Array S70) (hs : dk.size = d.size) (ham : m - a = 1) (hmb : m < b) (hb : b ≤ d.size) (hsz : d.size < 4611686018427387904) :
    Calls Try.prog 140 #[.slice (some ⟨blk, 0, none⟩) d.size cap, .int .i64 a, .int .i64 m, .int .i64 b, .func (.func g) #[] cb] (sortWorldK encP 8 w blk 0 m0 dk os) fun e w' =>
      e = .returned (.tuple #[]) ∧ ∃ n os', w' = sortWorldK encP 8 w blk 0 n (symM (ltOf cf) (k + 1) a m b dk) os' := by
  have HS : Hid (swUp (bsF (fun h => ltOf cf dk[h]! dk[a]!) (b - m) m b - 1 - a) a dk = symM (ltOf cf) (k + 1) a m b dk) := by show _ = _; rw [symM, if_pos ham]
  rw [← HS.out]
  clear HS
  have HC : Hid (CmpLays Try.prog g cb encP 8 cf blk 0 d.size w) := hcmp
  have HH : Hid (HoldsK encP 8 w blk 0 d) := hH
  have HSZ : Hid (dk.size = d.size) := hs
  clear hcmp hH hs
  have mixed : Try.prog.follows .mixedOrders = true := by kernel_rfl
  have HM : Hid (m = a + 1) := by show _ = _; omega
  have hone : ((m : Int) - (a : Int) == 1) = true := by simp; omega
  have ham' : a < m := by omega
  clear ham
  obtain ⟨pp, hpp⟩ : ∃ p : Nat → Bool, p = fun h => ltOf cf dk[h]! dk[a]! := ⟨_, rfl⟩
  rw [← hpp]
  have HPP : Hid _ := hpp
  clear hpp
  go_enter Try.func140, Try.ntmps140
  go_wp2
  go_loopg [10, 11] (b - m) (fun g1 vi vj wr => ∃ (i j n : Nat) (os' : Array Obj), vi = .int .i64 i ∧ vj = .int .i64 j ∧ m ≤ i ∧ i ≤ j ∧ j ≤ b ∧ j - i ≤ g1 ∧ wr = sortWorldK encP 8 w blk 0 n dk os' ∧ Hid (bsF pp g1 i j = bsF pp (b - m) m b))
  case atStart => exact ⟨m, b, m0, os, rfl, rfl, by omega, by omega, by omega, by omega, rfl, rfl⟩
  case round =>
    obtain ⟨i, j, n, os', rfl, rfl, hi1, hij, hj1, hg1, rfl, HO⟩ := hrel
    by_cases hlt : i < j
    · have hltz : (i : Int) < (j : Int) := by omega
      obtain ⟨g2, rfl⟩ : ∃ g2, gk = g2 + 1 := ⟨gk - 1, by omega⟩
      go_wp2_with fail
      obtain ⟨h, hh⟩ : ∃ h : Nat, h = (i + j) / 2 := ⟨_, rfl⟩
      have e : ((i : Int) + (j : Int)) / 2 = (h : Int) := by omega
      rw [e]
      have hhi : i ≤ h := by omega
      have hhj : h < j := by omega
      have HHH : Hid (h = (i + j) / 2) := hh
      clear e hh
      have q1 : (h : Int) < (d.size : Int) := by omega
      have q2 : (a : Int) < (d.size : Int) := by omega
      obtain ⟨xh, hxh⟩ : ∃ x, dk[h]! = x := ⟨_, rfl⟩
      obtain ⟨xa, hxa⟩ : ∃ x, dk[a]! = x := ⟨_, rfl⟩
      have hcls : ∀ n' os2, grow ((sortWorldK encP 8 w blk 0 n dk os').drewN n') os2 = sortWorldK encP 8 w blk 0 (n + n') dk (os' ++ os2) := fun n' os2 => sortWorldK_grown_c encP 8 w blk 0 n n' dk os' os2
      have hHc : ∀ n' os2, HoldsK encP 8 (grow ((sortWorldK encP 8 w blk 0 n dk os').drewN n') os2) blk 0 dk := fun n' os2 => by rw [hcls]; exact holdsK_sortWorldK_c encP 8 w blk 0 d dk _ _ HH.out hblk HSZ.out
      have lxh := fun n' os2 => (cells8 (hHc n' os2) (i := h) (by rw [HSZ.out]; omega) hxh).1
      have lxh0 := fun n' os2 => (lxh n' os2).1
      have lxh1 := fun n' os2 => (lxh n' os2).2.1
      have lxh2 := fun n' os2 => (lxh n' os2).2.2.1
      have lxh3 := fun n' os2 => (lxh n' os2).2.2.2.1
      have lxh4 := fun n' os2 => (lxh n' os2).2.2.2.2.1
      have lxh5 := fun n' os2 => (lxh n' os2).2.2.2.2.2.1
      have lxh6 := fun n' os2 => (lxh n' os2).2.2.2.2.2.2.1
      have lxh7 := fun n' os2 => (lxh n' os2).2.2.2.2.2.2.2
      clear lxh
      have lxa := fun n' os2 => (cells8 (hHc n' os2) (i := a) (by rw [HSZ.out]; omega) hxa).1
      have lxa0 := fun n' os2 => (lxa n' os2).1
      have lxa1 := fun n' os2 => (lxa n' os2).2.1
      have lxa2 := fun n' os2 => (lxa n' os2).2.2.1
      have lxa3 := fun n' os2 => (lxa n' os2).2.2.2.1
      have lxa4 := fun n' os2 => (lxa n' os2).2.2.2.2.1
      have lxa5 := fun n' os2 => (lxa n' os2).2.2.2.2.2.1
      have lxa6 := fun n' os2 => (lxa n' os2).2.2.2.2.2.2.1
      have lxa7 := fun n' os2 => (lxa n' os2).2.2.2.2.2.2.2
      clear lxa
      have hcg : ∀ n' os2, Calls Try.prog g (#[.agg #[.int .i64 xh.f0, .int .i64 xh.f1, .int .i64 xh.f2, .int .u64 xh.f3.f0, .int .u64 xh.f3.f1, .int .u64 xh.f3.f2, .int .u64 xh.f3.f3, .int .i64 xh.f4], .agg #[.int .i64 xa.f0, .int .i64 xa.f1, .int .i64 xa.f2, .int .u64 xa.f3.f0, .int .u64 xa.f3.f1, .int .u64 xa.f3.f2, .int .u64 xa.f3.f3, .int .i64 xa.f4]] ++ cb) (grow ((sortWorldK encP 8 w blk 0 n dk os').drewN n') os2) fun e w' => e = .returned (.int .i64 (cf xh xa)) ∧ ∃ q os3, w' = grow ((grow ((sortWorldK encP 8 w blk 0 n dk os').drewN n') os2).drewN q) os3 := fun n' os2 => by
        rw [hcls]; exact HC.out _ _ dk HSZ.out xh xa
      have CLS : Hid _ := hcls
      clear hcls hHc
      have HX : Hid (dk[h]! = xh) := hxh
      have HY : Hid (dk[a]! = xa) := hxa
      clear hxh hxa
      generalize hwq : sortWorldK encP 8 w blk 0 n dk os' = wq at lxh0 lxh1 lxh2 lxh3 lxh4 lxh5 lxh6 lxh7 lxa0 lxa1 lxa2 lxa3 lxa4 lxa5 lxa6 lxa7 hcg CLS ⊢
      have HWQ : Hid _ := hwq
      clear hwq
      by_cases hlv : cf xh xa < 0
      · have HLT : Hid (ltOf cf dk[h]! dk[a]! = true) := by show _ = _; rw [HX.out, HY.out]; exact decide_eq_true hlv
        have hlz : decide (cf xh xa < 0) = true := decide_eq_true hlv
        go_wp2_with fail
        go_quiet_grown (first | (go_at_fn g; refine Calls.grown_of (hcg _ _)))
        clear lxh0 lxh1 lxh2 lxh3 lxh4 lxh5 lxh6 lxh7 lxa0 lxa1 lxa2 lxa3 lxa4 lxa5 lxa6 lxa7 hcg
        go_wp2
        go_roundg g2
        case measure => omega
        case rel => exact ⟨h + 1, j, n + nq, os' ++ osq, by go_num, rfl, by omega, by omega, by omega, by omega, CLS.out nq osq, by show _ = _; rw [← HO.out, bsF_yes hlt (by rw [← HHH.out, HPP.out]; exact HLT.out), HHH.out]⟩
      · have HLT : Hid (ltOf cf dk[h]! dk[a]! = false) := by show _ = _; rw [HX.out, HY.out]; exact decide_eq_false hlv
        have hlz : decide (cf xh xa < 0) = false := decide_eq_false hlv
        go_wp2_with fail
        go_quiet_grown (first | (go_at_fn g; refine Calls.grown_of (hcg _ _)))
        clear lxh0 lxh1 lxh2 lxh3 lxh4 lxh5 lxh6 lxh7 lxa0 lxa1 lxa2 lxa3 lxa4 lxa5 lxa6 lxa7 hcg
        go_wp2
        go_roundg g2
        case measure => omega
        case rel => exact ⟨i, h, n + nq, os' ++ osq, rfl, rfl, by omega, by omega, by omega, by omega, CLS.out nq osq, by show _ = _; rw [← HO.out, bsF_no hlt (by rw [← HHH.out, HPP.out]; exact HLT.out), HHH.out]⟩
    · have hltz : ¬ (i : Int) < (j : Int) := by omega
      have HI : Hid (i = bsF pp (b - m) m b) := by show _ = _; rw [← HO.out, bsF_done hlt]
      clear HO
      have hib : i ≤ b := by omega
      go_wp2
      go_loopg [13] (i - 1 - a) (fun g1 vk wr => ∃ (k n : Nat) (dj : Array S70), vk = .int .i64 k ∧ a ≤ k ∧ k ≤ i - 1 ∧ i - 1 - k ≤ g1 ∧ Hid (dj.size = d.size) ∧ wr = sortWorldK encP 8 w blk 0 n dj os' ∧ Hid (swUp (i - 1 - k) k dj = swUp (i - 1 - a) a dk))
      case atStart => exact ⟨a, n, dk, rfl, by omega, by omega, by omega, HSZ, rfl, rfl⟩
      case round =>
        obtain ⟨k, n2, dj, rfl, hak, hki, hg2, HSJ, rfl, HO⟩ := hrel
        by_cases hk : k < i - 1
        · have hkz : (k : Int) < (i : Int) - 1 := by omega
          have j1 : (k : Int) < (d.size : Int) := by omega
          have j2 : (k : Int) + 1 < (d.size : Int) := by omega
          have p2 : (0 : Int) ≤ (k : Int) + 1 := by omega
          obtain ⟨k1, hk1⟩ : ∃ k1 : Nat, k1 = k + 1 := ⟨_, rfl⟩
          have e2 : ((k : Int) + 1).toNat = k1 := by omega
          have hkd : k1 < d.size := by omega
          have hkd0 : k < d.size := by omega
          obtain ⟨xa, hxa⟩ : ∃ x, dj[k]! = x := ⟨_, rfl⟩
          obtain ⟨xb, hxb⟩ : ∃ x, dj[k1]! = x := ⟨_, rfl⟩
          have hHd := holdsK_sortWorldK_c encP 8 w blk 0 d dj n2 os' HH.out hblk HSJ.out
          have HSW : Hid (((sortWorldK encP 8 w blk 0 n2 dj os').drew.setCells blk ((k) * 8) (encP xb)).setCells blk ((k1) * 8) (encP xa) = sortWorldK encP 8 w blk 0 (n2 + 1) (swp dj (k) (k1)) os') := by
            show _ = _
            rw [← hxa, ← hxb]
            have := sortWorldK_swp_c encP 8 w blk 0 encP_len n2 dj os' hblk (k) (k1) (by rw [HSJ.out]; omega) (by rw [HSJ.out]; omega)
            simpa using this
          generalize hwq : sortWorldK encP 8 w blk 0 n2 dj os' = wq at hHd HSW ⊢
          obtain ⟨⟨la0, la1, la2, la3, la4, la5, la6, la7⟩, fa0, fa1, fa2, fa3, fa4, fa5, fa6, fa7⟩ := cells8 hHd (i := k) (by rw [HSJ.out]; omega) hxa
          obtain ⟨⟨lb0, lb1, lb2, lb3, lb4, lb5, lb6, lb7⟩, fb0, fb1, fb2, fb3, fb4, fb5, fb6, fb7⟩ := cells8 hHd (i := k1) (by rw [HSJ.out]; omega) hxb
          have hsd := HSJ.out
          obtain ⟨w0, w1, w2, w3, w4, w5, w6, w7, ⟨lb0', lb1', lb2', lb3', lb4', lb5', lb6', lb7'⟩, fb0', fb1', fb2', fb3', fb4', fb5', fb6', fb7'⟩ := after8 hHd ((k) * 8) xb (by rw [size_flatK]; omega) ((k1) * 8) (by rw [size_flatK]; omega)
          clear hHd hsd
          have HWQ : Hid _ := hwq
          clear hwq
          have HXA : Hid _ := hxa
          have HXB : Hid _ := hxb
          clear hxa hxb
          have HK1 : Hid _ := hk1
          clear hk1
          go_wp2
          go_big_region
          all_goals go_wp2
          have hk1 := HK1.out
          go_roundg (i - 1 - (k + 1))
          case measure => omega
          case rel => exact ⟨k + 1, n2 + 1, swp dj k k1, by go_num, by omega, by omega, by omega, (by show _ = _; rw [size_swp]; exact HSJ.out), (set16 _ _ _ _ _ _).trans HSW.out, (by show _ = _; rw [← HO.out, show i - 1 - k = (i - 1 - (k + 1)) + 1 by omega, swUp, hk1])⟩
        · have hkz : ¬ (k : Int) < (i : Int) - 1 := by omega
          go_wp2
          refine bodyPost_ret (results_none rfl _ _ _) rfl ?_
          exact ⟨rfl, n2, os', by rw [← HI.out, ← HO.out, show i - 1 - k = 0 by omega, swUp]⟩
end
end Go.Proofs.Ytppfkbigeknedaa.Q
namespace Go.Proofs.Ytppfkbigeknedaa.Q
open Go.Shelf Go.RowKit Go.Lib Go.Sort
set_option linter.unusedVariables false
set_option linter.unusedSimpArgs false
set_option maxRecDepth 100000
section
variable (w : World) (blk cap : Nat) (g : Nat) (cb : Array Value) (cf : S70 → S70 → Int)
set_option maxHeartbeats 4000000 in
theorem symMerge_last (eg : ∀ args w, (callFunc g args).run Try.prog w = .ok (.enter g args) w) (kk a m b : Nat) (d : Array S70) (m0 : Nat) (os : Array Obj) (hcmp : CmpLays Try.prog g cb encP 8 cf blk 0 d.size w) (hH : HoldsK encP 8 w blk 0 d) (hblk : blk < w.heap.size) (dk : Array S70) (hs : dk.size = d.size) (ham : a < m) (ham1 : m - a ≠ 1) (hmb : b - m = 1) (hb : b ≤ d.size) (hsz : d.size < 4611686018427387904) :
    Calls Try.prog 140 #[.slice (some ⟨blk, 0, none⟩) d.size cap, .int .i64 a, .int .i64 m, .int .i64 b, .func (.func g) #[] cb] (sortWorldK encP 8 w blk 0 m0 dk os) fun e w' =>
      e = .returned (.tuple #[]) ∧ ∃ n os', w' = sortWorldK encP 8 w blk 0 n (symM (ltOf cf) (kk + 1) a m b dk) os' := by
  have HS : Hid (swDn (m - bsF (fun h => !ltOf cf dk[m]! dk[h]!) (m - a) a m) m dk = symM (ltOf cf) (kk + 1) a m b dk) := by show _ = _; rw [symM, if_neg ham1, if_pos hmb]
  rw [← HS.out]
  clear HS
  have HC : Hid (CmpLays Try.prog g cb encP 8 cf blk 0 d.size w) := hcmp
  have HH : Hid (HoldsK encP 8 w blk 0 d) := hH
  have HSZ : Hid (dk.size = d.size) := hs
  clear hcmp hH hs
  have mixed : Try.prog.follows .mixedOrders = true := by kernel_rfl
  have hone : ((m : Int) - (a : Int) == 1) = false := by simp; omega
  have hone2 : ((b : Int) - (m : Int) == 1) = true := by simp; omega
  have hmb' : m < b := by omega
  clear ham1 hmb
  obtain ⟨pp, hpp⟩ : ∃ p : Nat → Bool, p = fun h => !ltOf cf dk[m]! dk[h]! := ⟨_, rfl⟩
  rw [← hpp]
  have HPP : Hid _ := hpp
  clear hpp
  go_enter Try.func140, Try.ntmps140
  go_wp2
  go_loopg [14, 15] (m - a) (fun g1 vi vj wr => ∃ (i j n : Nat) (os' : Array Obj), vi = .int .i64 i ∧ vj = .int .i64 j ∧ a ≤ i ∧ i ≤ j ∧ j ≤ m ∧ j - i ≤ g1 ∧ wr = sortWorldK encP 8 w blk 0 n dk os' ∧ Hid (bsF pp g1 i j = bsF pp (m - a) a m))
  case atStart => exact ⟨a, m, m0, os, rfl, rfl, by omega, by omega, by omega, by omega, rfl, rfl⟩
  case round =>
    obtain ⟨i, j, n, os', rfl, rfl, hi1, hij, hj1, hg1, rfl, HO⟩ := hrel
    by_cases hlt : i < j
    · have hltz : (i : Int) < (j : Int) := by omega
      obtain ⟨g2, rfl⟩ : ∃ g2, gk = g2 + 1 := ⟨gk - 1, by omega⟩
      go_wp2_with fail
      obtain ⟨h, hh⟩ : ∃ h : Nat, h = (i + j) / 2 := ⟨_, rfl⟩
      have e : ((i : Int) + (j : Int)) / 2 = (h : Int) := by omega
      rw [e]
      have hhi : i ≤ h := by omega
      have hhj : h < j := by omega
      have HHH : Hid (h = (i + j) / 2) := hh
      clear e hh
      have q1 : (h : Int) < (d.size : Int) := by omega
      have q2 : (m : Int) < (d.size : Int) := by omega
      obtain ⟨xm, hxm⟩ : ∃ x, dk[m]! = x := ⟨_, rfl⟩
      obtain ⟨xh, hxh⟩ : ∃ x, dk[h]! = x := ⟨_, rfl⟩
      have hcls : ∀ n' os2, grow ((sortWorldK encP 8 w blk 0 n dk os').drewN n') os2 = sortWorldK encP 8 w blk 0 (n + n') dk (os' ++ os2) := fun n' os2 => sortWorldK_grown_c encP 8 w blk 0 n n' dk os' os2
      have hHc : ∀ n' os2, HoldsK encP 8 (grow ((sortWorldK encP 8 w blk 0 n dk os').drewN n') os2) blk 0 dk := fun n' os2 => by rw [hcls]; exact holdsK_sortWorldK_c encP 8 w blk 0 d dk _ _ HH.out hblk HSZ.out
      have lxm := fun n' os2 => (cells8 (hHc n' os2) (i := m) (by rw [HSZ.out]; omega) hxm).1
      have lxm0 := fun n' os2 => (lxm n' os2).1
      have lxm1 := fun n' os2 => (lxm n' os2).2.1
      have lxm2 := fun n' os2 => (lxm n' os2).2.2.1
      have lxm3 := fun n' os2 => (lxm n' os2).2.2.2.1
      have lxm4 := fun n' os2 => (lxm n' os2).2.2.2.2.1
      have lxm5 := fun n' os2 => (lxm n' os2).2.2.2.2.2.1
      have lxm6 := fun n' os2 => (lxm n' os2).2.2.2.2.2.2.1
      have lxm7 := fun n' os2 => (lxm n' os2).2.2.2.2.2.2.2
      clear lxm
      have lxh := fun n' os2 => (cells8 (hHc n' os2) (i := h) (by rw [HSZ.out]; omega) hxh).1
      have lxh0 := fun n' os2 => (lxh n' os2).1
      have lxh1 := fun n' os2 => (lxh n' os2).2.1
      have lxh2 := fun n' os2 => (lxh n' os2).2.2.1
      have lxh3 := fun n' os2 => (lxh n' os2).2.2.2.1
      have lxh4 := fun n' os2 => (lxh n' os2).2.2.2.2.1
      have lxh5 := fun n' os2 => (lxh n' os2).2.2.2.2.2.1
      have lxh6 := fun n' os2 => (lxh n' os2).2.2.2.2.2.2.1
      have lxh7 := fun n' os2 => (lxh n' os2).2.2.2.2.2.2.2
      clear lxh
      have hcg : ∀ n' os2, Calls Try.prog g (#[.agg #[.int .i64 xm.f0, .int .i64 xm.f1, .int .i64 xm.f2, .int .u64 xm.f3.f0, .int .u64 xm.f3.f1, .int .u64 xm.f3.f2, .int .u64 xm.f3.f3, .int .i64 xm.f4], .agg #[.int .i64 xh.f0, .int .i64 xh.f1, .int .i64 xh.f2, .int .u64 xh.f3.f0, .int .u64 xh.f3.f1, .int .u64 xh.f3.f2, .int .u64 xh.f3.f3, .int .i64 xh.f4]] ++ cb) (grow ((sortWorldK encP 8 w blk 0 n dk os').drewN n') os2) fun e w' => e = .returned (.int .i64 (cf xm xh)) ∧ ∃ q os3, w' = grow ((grow ((sortWorldK encP 8 w blk 0 n dk os').drewN n') os2).drewN q) os3 := fun n' os2 => by
        rw [hcls]; exact HC.out _ _ dk HSZ.out xm xh
      have CLS : Hid _ := hcls
      clear hcls hHc
      have HX : Hid (dk[m]! = xm) := hxm
      have HY : Hid (dk[h]! = xh) := hxh
      clear hxm hxh
      generalize hwq : sortWorldK encP 8 w blk 0 n dk os' = wq at lxm0 lxm1 lxm2 lxm3 lxm4 lxm5 lxm6 lxm7 lxh0 lxh1 lxh2 lxh3 lxh4 lxh5 lxh6 lxh7 hcg CLS ⊢
      have HWQ : Hid _ := hwq
      clear hwq
      by_cases hlv : cf xm xh < 0
      · have HLT : Hid (ltOf cf dk[m]! dk[h]! = true) := by show _ = _; rw [HX.out, HY.out]; exact decide_eq_true hlv
        have hlz : decide (cf xm xh < 0) = true := decide_eq_true hlv
        go_wp2_with fail
        go_quiet_grown (first | (go_at_fn g; refine Calls.grown_of (hcg _ _)))
        clear lxm0 lxm1 lxm2 lxm3 lxm4 lxm5 lxm6 lxm7 lxh0 lxh1 lxh2 lxh3 lxh4 lxh5 lxh6 lxh7 hcg
        go_wp2
        go_roundg g2
        case measure => omega
        case rel => exact ⟨i, h, n + nq, os' ++ osq, rfl, rfl, by omega, by omega, by omega, by omega, CLS.out nq osq, by show _ = _; rw [← HO.out, bsF_no hlt (by rw [← HHH.out, HPP.out]; simp [HLT.out]), HHH.out]⟩
      · have HLT : Hid (ltOf cf dk[m]! dk[h]! = false) := by show _ = _; rw [HX.out, HY.out]; exact decide_eq_false hlv
        have hlz : decide (cf xm xh < 0) = false := decide_eq_false hlv
        go_wp2_with fail
        go_quiet_grown (first | (go_at_fn g; refine Calls.grown_of (hcg _ _)))
        clear lxm0 lxm1 lxm2 lxm3 lxm4 lxm5 lxm6 lxm7 lxh0 lxh1 lxh2 lxh3 lxh4 lxh5 lxh6 lxh7 hcg
        go_wp2
        go_roundg g2
        case measure => omega
        case rel => exact ⟨h + 1, j, n + nq, os' ++ osq, by go_num, rfl, by omega, by omega, by omega, by omega, CLS.out nq osq, by show _ = _; rw [← HO.out, bsF_yes hlt (by rw [← HHH.out, HPP.out]; simp [HLT.out]), HHH.out]⟩
    · have hltz : ¬ (i : Int) < (j : Int) := by omega
      have HI : Hid (i = bsF pp (m - a) a m) := by show _ = _; rw [← HO.out, bsF_done hlt]
      clear HO
      have him : i ≤ m := by omega
      go_wp2
      go_loopg [17] (m - i) (fun g1 vk wr => ∃ (k n : Nat) (dj : Array S70), vk = .int .i64 k ∧ i ≤ k ∧ k ≤ m ∧ k - i ≤ g1 ∧ Hid (dj.size = d.size) ∧ wr = sortWorldK encP 8 w blk 0 n dj os' ∧ Hid (swDn (k - i) k dj = swDn (m - i) m dk))
      case atStart => exact ⟨m, n, dk, rfl, by omega, by omega, by omega, HSZ, rfl, rfl⟩
      case round =>
        obtain ⟨k, n2, dj, rfl, hik, hkm, hg2, HSJ, rfl, HO⟩ := hrel
        by_cases hk : i < k
        · have hkz : (i : Int) < (k : Int) := by omega
          have j1 : (k : Int) < (d.size : Int) := by omega
          have j2 : (k : Int) - 1 < (d.size : Int) := by omega
          have p2 : (0 : Int) ≤ (k : Int) - 1 := by omega
          have p3 : (1 : Int) ≤ (k : Int) := by omega
          obtain ⟨k1, hk1⟩ : ∃ k1 : Nat, k1 = k - 1 := ⟨_, rfl⟩
          have e2 : ((k : Int) - 1).toNat = k1 := by omega
          have hkd : k1 < d.size := by omega
          have hkd0 : k < d.size := by omega
          obtain ⟨xa, hxa⟩ : ∃ x, dj[k]! = x := ⟨_, rfl⟩
          obtain ⟨xb, hxb⟩ : ∃ x, dj[k1]! = x := ⟨_, rfl⟩
          have hHd := holdsK_sortWorldK_c encP 8 w blk 0 d dj n2 os' HH.out hblk HSJ.out
          have HSW : Hid (((sortWorldK encP 8 w blk 0 n2 dj os').drew.setCells blk ((k) * 8) (encP xb)).setCells blk ((k1) * 8) (encP xa) = sortWorldK encP 8 w blk 0 (n2 + 1) (swp dj (k) (k1)) os') := by
            show _ = _
            rw [← hxa, ← hxb]
            have := sortWorldK_swp_c encP 8 w blk 0 encP_len n2 dj os' hblk (k) (k1) (by rw [HSJ.out]; omega) (by rw [HSJ.out]; omega)
            simpa using this
          generalize hwq : sortWorldK encP 8 w blk 0 n2 dj os' = wq at hHd HSW ⊢
          obtain ⟨⟨la0, la1, la2, la3, la4, la5, la6, la7⟩, fa0, fa1, fa2, fa3, fa4, fa5, fa6, fa7⟩ := cells8 hHd (i := k) (by rw [HSJ.out]; omega) hxa
          obtain ⟨⟨lb0, lb1, lb2, lb3, lb4, lb5, lb6, lb7⟩, fb0, fb1, fb2, fb3, fb4, fb5, fb6, fb7⟩ := cells8 hHd (i := k1) (by rw [HSJ.out]; omega) hxb
          have hsd := HSJ.out
          obtain ⟨w0, w1, w2, w3, w4, w5, w6, w7, ⟨lb0', lb1', lb2', lb3', lb4', lb5', lb6', lb7'⟩, fb0', fb1', fb2', fb3', fb4', fb5', fb6', fb7'⟩ := after8 hHd ((k) * 8) xb (by rw [size_flatK]; omega) ((k1) * 8) (by rw [size_flatK]; omega)
          clear hHd hsd
          have HWQ : Hid _ := hwq
          clear hwq
          have HXA : Hid _ := hxa
          have HXB : Hid _ := hxb
          clear hxa hxb
          have HK1 : Hid _ := hk1
          clear hk1
          go_wp2
          go_big_region
          all_goals go_wp2
          have hk1 := HK1.out
          go_roundg (k - 1 - i)
          case measure => omega
          case rel => exact ⟨k - 1, n2 + 1, swp dj k k1, (by show Value.int .i64 ((k : Int) - 1) = _; rw [show (k : Int) - 1 = ((k - 1 : Nat) : Int) by omega]), by omega, by omega, by omega, (by show _ = _; rw [size_swp]; exact HSJ.out), (set16 _ _ _ _ _ _).trans HSW.out, (by show _ = _; rw [← HO.out, show k - i = (k - 1 - i) + 1 by omega, swDn, hk1])⟩
        · have hkz : ¬ (i : Int) < (k : Int) := by omega
          go_wp2
          refine bodyPost_ret (results_none rfl _ _ _) rfl ?_
          exact ⟨rfl, n2, os', by rw [← HI.out, ← HO.out, show k - i = 0 by omega, swDn]⟩
end
end Go.Proofs.Ytppfkbigeknedaa.Q
namespace Go.Proofs.Ytppfkbigeknedaa.Q
open Go.Shelf Go.RowKit Go.Lib Go.Sort
set_option linter.unusedVariables false
set_option linter.unusedSimpArgs false
set_option maxRecDepth 100000
theorem symM_size (lt : S70 → S70 → Bool) : ∀ (k a m b : Nat) (d : Array S70), (symM lt k a m b d).size = d.size
  | 0, _, _, _, _ => rfl
  | k + 1, a, m, b, d => by
    have ih := symM_size lt k
    unfold symM
    split
    · exact swUp_size _ _ _
    split
    · exact swDn_size _ _ _
    · dsimp only
      repeat' (first | rfl | split | rw [ih] | rw [rotF_size])
def symT (lt : S70 → S70 → Bool) (k a m b mid s : Nat) (d : Array S70) : Array S70 :=
  let e := mid + m - s
  let d1 := if s < m ∧ m < e then rotF m (e - s) (m - s) (e - m) d else d
  let d2 := if a < s ∧ s < mid then symM lt k a s mid d1 else d1
  if mid < e ∧ e < b then symM lt k mid e b d2 else d2
section
variable (w : World) (blk cap : Nat) (g : Nat) (cb : Array Value) (cf : S70 → S70 → Int)
theorem symAt (A M B : Int) (a m b : Nat) (hA : A = a) (hM : M = m) (hB : B = b) {Q : Ending → World → Prop} {W : World} {v c : Value} (h : Calls Try.prog 140 #[v, .int .i64 a, .int .i64 m, .int .i64 b, c] W Q) : Calls Try.prog 140 #[v, .int .i64 A, .int .i64 M, .int .i64 B, c] W Q := by subst hA hM hB; exact h
theorem rotAt (A M B : Int) (a m b : Nat) (hA : A = a) (hM : M = m) (hB : B = b) {Q : Ending → World → Prop} {W : World} {v c : Value} (h : Calls Try.prog 152 #[v, .int .i64 a, .int .i64 m, .int .i64 b, c] W Q) : Calls Try.prog 152 #[v, .int .i64 A, .int .i64 M, .int .i64 B, c] W Q := by subst hA hM hB; exact h
set_option maxHeartbeats 4000000 in
theorem symMerge_gen (eg : ∀ args w, (callFunc g args).run Try.prog w = .ok (.enter g args) w) (kk a m b : Nat) (d : Array S70) (m0 : Nat) (os : Array Obj) (hcmp : CmpLays Try.prog g cb encP 8 cf blk 0 d.size w) (hH : HoldsK encP 8 w blk 0 d) (hblk : blk < w.heap.size) (dk : Array S70) (hs : dk.size = d.size) (ham : a < m) (ham1 : m - a ≠ 1) (hmb : m < b) (hmb1 : b - m ≠ 1) (hb : b ≤ d.size) (hsz : d.size < 4611686018427387904) (hk : b - a ≤ kk + 1)
    (ih : ∀ (a m b m0 : Nat) (os : Array Obj) (dk : Array S70), dk.size = d.size → a < m → m < b → b ≤ d.size → b - a ≤ kk → Calls Try.prog 140 #[.slice (some ⟨blk, 0, none⟩) d.size cap, .int .i64 a, .int .i64 m, .int .i64 b, .func (.func g) #[] cb] (sortWorldK encP 8 w blk 0 m0 dk os) fun e w' =>
      e = .returned (.tuple #[]) ∧ ∃ n os', w' = sortWorldK encP 8 w blk 0 n (symM (ltOf cf) kk a m b dk) os') :
    Calls Try.prog 140 #[.slice (some ⟨blk, 0, none⟩) d.size cap, .int .i64 a, .int .i64 m, .int .i64 b, .func (.func g) #[] cb] (sortWorldK encP 8 w blk 0 m0 dk os) fun e w' =>
      e = .returned (.tuple #[]) ∧ ∃ n os', w' = sortWorldK encP 8 w blk 0 n (symM (ltOf cf) (kk + 1) a m b dk) os' := by
  obtain ⟨mid, hmid⟩ : ∃ mid : Nat, mid = (a + b) / 2 := ⟨_, rfl⟩
  obtain ⟨s0, r0, hsr, hs0⟩ : ∃ s0 r0 : Nat, (s0 = (if mid < m then mid + m - b else a) ∧ r0 = (if mid < m then mid else m)) ∧ (mid < m ∧ s0 = mid + m - b ∧ r0 = mid ∨ ¬ mid < m ∧ s0 = a ∧ r0 = m) := by
    by_cases h : mid < m
    · exact ⟨mid + m - b, mid, ⟨by rw [if_pos h], by rw [if_pos h]⟩, Or.inl ⟨h, rfl, rfl⟩⟩
    · exact ⟨a, m, ⟨by rw [if_neg h], by rw [if_neg h]⟩, Or.inr ⟨h, rfl, rfl⟩⟩
  obtain ⟨pp, hpp⟩ : ∃ p : Nat → Bool, p = fun c => !ltOf cf dk[mid + m - 1 - c]! dk[c]! := ⟨_, rfl⟩
  have HS : Hid (symT (ltOf cf) kk a m b mid (bsF pp (r0 - s0) s0 r0) dk = symM (ltOf cf) (kk + 1) a m b dk) := by
    show _ = _
    rw [symM, if_neg ham1, if_neg hmb1, ← hmid, hpp, hsr.1, hsr.2]
    rfl
  rw [← HS.out]
  clear HS hsr
  have HPP : Hid _ := hpp
  clear hpp
  have HC : Hid (CmpLays Try.prog g cb encP 8 cf blk 0 d.size w) := hcmp
  have HH : Hid (HoldsK encP 8 w blk 0 d) := hH
  have HSZ : Hid (dk.size = d.size) := hs
  have IH : Hid _ := ih
  clear hcmp hH hs ih
  have mixed : Try.prog.follows .mixedOrders = true := by kernel_rfl
  have hone : ((m : Int) - (a : Int) == 1) = false := by simp; omega
  have hone2 : ((b : Int) - (m : Int) == 1) = false := by simp; omega
  have HMID : Hid (mid = (a + b) / 2) := hmid
  have hm1 : a < mid := by omega
  have hm2 : mid < b := by omega
  have hm3 : mid + m - a ≤ b ∨ mid < m := by omega
  clear ham1 hmb1 hmid
  have hA : ∀ x y : Int, x = y → Value.int .i64 x = Value.int .i64 y := fun x y e => by rw [e]
  have HA : Hid _ := hA
  clear hA
  have HR : Hid (s0 ≤ r0 ∧ r0 ≤ mid ∧ r0 ≤ m ∧ a ≤ s0 ∧ mid + m ≤ s0 + b ∧ (mid < m ∨ m ≤ mid)) := by have := HMID.out; refine ⟨?_, ?_, ?_, ?_, ?_, ?_⟩ <;> omega
  have H23 : Hid _ := hs0
  rcases hs0 with ⟨h1, h2, h3⟩ | ⟨h1, h2, h3⟩
  all_goals
    have hmid := HMID.out
    have hrr := HR.out
    obtain ⟨hr1, hr2, hr3, hr4, hr5, -⟩ := hrr
    have hz0 : (((a : Int) + (b : Int)) / 2 < (m : Int)) = (mid < m) := by rw [eq_iff_iff]; omega
    have hz : ((a : Int) + (b : Int)) / 2 < (m : Int) ∨ ¬ ((a : Int) + (b : Int)) / 2 < (m : Int) := by omega
    have hms : ((a : Int) + (b : Int)) / 2 = (mid : Int) := by omega
    have HMS : Hid _ := hms
    clear hz hms hmid h2 h3
    first | (have hzz : ((a : Int) + (b : Int)) / 2 < (m : Int) := by rw [HMS.out]; omega) | (have hzz : ¬ ((a : Int) + (b : Int)) / 2 < (m : Int) := by rw [HMS.out]; omega)
    clear hz0
    go_enter Try.func140, Try.ntmps140
    go_wp2_with fail
    rw [HMS.out]
    clear hzz
    go_loopg [20, 21] (r0 - s0) (fun g1 vi vj wr => ∃ (i j n : Nat) (os' : Array Obj), vi = .int .i64 i ∧ vj = .int .i64 j ∧ s0 ≤ i ∧ i ≤ j ∧ j ≤ r0 ∧ j - i ≤ g1 ∧ wr = sortWorldK encP 8 w blk 0 n dk os' ∧ Hid (bsF pp g1 i j = bsF pp (r0 - s0) s0 r0))
    case atStart => exact ⟨s0, r0, m0, os, HA.out _ _ (by have := H23.out; have := HMID.out; omega), HA.out _ _ (by have := H23.out; have := HMID.out; omega), by omega, by omega, by omega, by omega, rfl, rfl⟩
    case round =>
      obtain ⟨i, j, n, os', rfl, rfl, hi1, hij, hj1, hg1, rfl, HO⟩ := hrel
      by_cases hlt : i < j
      · have hltz : (i : Int) < (j : Int) := by omega
        obtain ⟨g2, rfl⟩ : ∃ g2, gk = g2 + 1 := ⟨gk - 1, by omega⟩
        go_wp2_with fail
        obtain ⟨h, hh⟩ : ∃ h : Nat, h = (i + j) / 2 := ⟨_, rfl⟩
        have e : ((i : Int) + (j : Int)) / 2 = (h : Int) := by omega
        rw [e]
        have hhi : i ≤ h := by omega
        have hhj : h < j := by omega
        have HHH : Hid (h = (i + j) / 2) := hh
        clear e hh
        obtain ⟨q, hq⟩ : ∃ q : Nat, q = mid + m - 1 - h := ⟨_, rfl⟩
        have q1 : (h : Int) < (d.size : Int) := by omega
        have q2 : (mid : Int) + (m : Int) - 1 - (h : Int) < (d.size : Int) := by omega
        have q3 : (0 : Int) ≤ (mid : Int) + (m : Int) - 1 - (h : Int) := by omega
        have q4 : ((mid : Int) + (m : Int) - 1 - (h : Int)).toNat = q := by omega
        have q5 : q < d.size := by omega
        have q7 : (h : Int) ≤ (mid : Int) + (m : Int) - 1 := by omega
        have q6 : IntKind.i64.wrap ((mid : Int) + (m : Int) - 1 - (h : Int)) = (mid : Int) + (m : Int) - 1 - (h : Int) := by rw [IntKind.wrap_i64]; omega
        have HQ : Hid _ := hq
        clear hq
        obtain ⟨xq, hxq⟩ : ∃ x, dk[q]! = x := ⟨_, rfl⟩
        obtain ⟨xh, hxh⟩ : ∃ x, dk[h]! = x := ⟨_, rfl⟩
        have hcls : ∀ n' os2, grow ((sortWorldK encP 8 w blk 0 n dk os').drewN n') os2 = sortWorldK encP 8 w blk 0 (n + n') dk (os' ++ os2) := fun n' os2 => sortWorldK_grown_c encP 8 w blk 0 n n' dk os' os2
        have hHc : ∀ n' os2, HoldsK encP 8 (grow ((sortWorldK encP 8 w blk 0 n dk os').drewN n') os2) blk 0 dk := fun n' os2 => by rw [hcls]; exact holdsK_sortWorldK_c encP 8 w blk 0 d dk _ _ HH.out hblk HSZ.out
        have lxq := fun n' os2 => (cells8 (hHc n' os2) (i := q) (by rw [HSZ.out]; omega) hxq).1
        have lxq0 := fun n' os2 => (lxq n' os2).1
        have lxq1 := fun n' os2 => (lxq n' os2).2.1
        have lxq2 := fun n' os2 => (lxq n' os2).2.2.1
        have lxq3 := fun n' os2 => (lxq n' os2).2.2.2.1
        have lxq4 := fun n' os2 => (lxq n' os2).2.2.2.2.1
        have lxq5 := fun n' os2 => (lxq n' os2).2.2.2.2.2.1
        have lxq6 := fun n' os2 => (lxq n' os2).2.2.2.2.2.2.1
        have lxq7 := fun n' os2 => (lxq n' os2).2.2.2.2.2.2.2
        clear lxq
        have lxh := fun n' os2 => (cells8 (hHc n' os2) (i := h) (by rw [HSZ.out]; omega) hxh).1
        have lxh0 := fun n' os2 => (lxh n' os2).1
        have lxh1 := fun n' os2 => (lxh n' os2).2.1
        have lxh2 := fun n' os2 => (lxh n' os2).2.2.1
        have lxh3 := fun n' os2 => (lxh n' os2).2.2.2.1
        have lxh4 := fun n' os2 => (lxh n' os2).2.2.2.2.1
        have lxh5 := fun n' os2 => (lxh n' os2).2.2.2.2.2.1
        have lxh6 := fun n' os2 => (lxh n' os2).2.2.2.2.2.2.1
        have lxh7 := fun n' os2 => (lxh n' os2).2.2.2.2.2.2.2
        clear lxh
        have hcg : ∀ n' os2, Calls Try.prog g (#[.agg #[.int .i64 xq.f0, .int .i64 xq.f1, .int .i64 xq.f2, .int .u64 xq.f3.f0, .int .u64 xq.f3.f1, .int .u64 xq.f3.f2, .int .u64 xq.f3.f3, .int .i64 xq.f4], .agg #[.int .i64 xh.f0, .int .i64 xh.f1, .int .i64 xh.f2, .int .u64 xh.f3.f0, .int .u64 xh.f3.f1, .int .u64 xh.f3.f2, .int .u64 xh.f3.f3, .int .i64 xh.f4]] ++ cb) (grow ((sortWorldK encP 8 w blk 0 n dk os').drewN n') os2) fun e w' => e = .returned (.int .i64 (cf xq xh)) ∧ ∃ q os3, w' = grow ((grow ((sortWorldK encP 8 w blk 0 n dk os').drewN n') os2).drewN q) os3 := fun n' os2 => by
          rw [hcls]; exact HC.out _ _ dk HSZ.out xq xh
        have CLS : Hid _ := hcls
        clear hcls hHc
        have HX : Hid (dk[q]! = xq) := hxq
        have HY : Hid (dk[h]! = xh) := hxh
        clear hxq hxh
        generalize hwq : sortWorldK encP 8 w blk 0 n dk os' = wq at lxq0 lxq1 lxq2 lxq3 lxq4 lxq5 lxq6 lxq7 lxh0 lxh1 lxh2 lxh3 lxh4 lxh5 lxh6 lxh7 hcg CLS ⊢
        have HWQ : Hid _ := hwq
        clear hwq
        by_cases hlv : cf xq xh < 0
        · have HLT : Hid (ltOf cf dk[q]! dk[h]! = true) := by show _ = _; rw [HX.out, HY.out]; exact decide_eq_true hlv
          have hlz : decide (cf xq xh < 0) = true := decide_eq_true hlv
          go_wp2_with fail
          go_quiet_grown (first | (go_at_fn g; refine Calls.grown_of (hcg _ _)))
          clear lxq0 lxq1 lxq2 lxq3 lxq4 lxq5 lxq6 lxq7 lxh0 lxh1 lxh2 lxh3 lxh4 lxh5 lxh6 lxh7 hcg
          go_wp2
          go_roundg g2
          case measure => omega
          case rel => exact ⟨i, h, n + nq, os' ++ osq, rfl, rfl, by omega, by omega, by omega, by omega, CLS.out nq osq, by show _ = _; rw [← HO.out, bsF_no hlt (by rw [← HHH.out, HPP.out]; have := HLT.out; rw [HQ.out] at this; simp [this]), HHH.out]⟩
        · have HLT : Hid (ltOf cf dk[q]! dk[h]! = false) := by show _ = _; rw [HX.out, HY.out]; exact decide_eq_false hlv
          have hlz : decide (cf xq xh < 0) = false := decide_eq_false hlv
          go_wp2_with fail
          go_quiet_grown (first | (go_at_fn g; refine Calls.grown_of (hcg _ _)))
          clear lxq0 lxq1 lxq2 lxq3 lxq4 lxq5 lxq6 lxq7 lxh0 lxh1 lxh2 lxh3 lxh4 lxh5 lxh6 lxh7 hcg
          go_wp2
          go_roundg g2
          case measure => omega
          case rel => exact ⟨h + 1, j, n + nq, os' ++ osq, by go_num, rfl, by omega, by omega, by omega, by omega, CLS.out nq osq, by show _ = _; rw [← HO.out, bsF_yes hlt (by rw [← HHH.out, HPP.out]; have := HLT.out; rw [HQ.out] at this; simp [this]), HHH.out]⟩
      · have hltz : ¬ (i : Int) < (j : Int) := by omega
        have HI : Hid (i = bsF pp (r0 - s0) s0 r0) := by show _ = _; rw [← HO.out, bsF_done hlt]
        clear HO
        have hir : i ≤ r0 := by omega
        by_cases c0a : i < m
        · by_cases c0b : m < mid + m - i
          · first
              | omega
              | (have z0a : (i : Int) < (m : Int) := by omega
                 have z0b : (m : Int) < (mid : Int) + (m : Int) - (i : Int) := by omega
                 go_wp2_with fail
                 refine (rotAt _ _ _ i m (mid + m - i) (by omega) (by omega) (by omega) (rotate_pod w blk cap _ i m (mid + m - i) d _ _ HH.out hblk _ HSZ.out (by omega) (by omega) (by omega) hsz)).mono ?_
                 rintro e w1 ⟨rfl, n2, rfl⟩
                 by_cases c1a : a < i
                 · by_cases c1b : i < mid
                   · first
                       | omega
                       | (have z1a : (a : Int) < (i : Int) := by omega
                          have z1b : (i : Int) < (mid : Int) := by omega
                          go_wp2_with fail
                          refine (symAt _ _ _ a i mid (by omega) (by omega) (by omega) (IH.out a i mid _ _ _ ((rotF_size _ _ _ _ _).trans HSZ.out) (by omega) (by omega) (by omega) (by omega))).mono ?_
                          rintro e w1 ⟨rfl, n3, os3, rfl⟩
                          by_cases c2a : mid < mid + m - i
                          · by_cases c2b : mid + m - i < b
                            · first
                                | omega
                                | (have z2a : (mid : Int) < (mid : Int) + (m : Int) - (i : Int) := by omega
                                   have z2b : (mid : Int) + (m : Int) - (i : Int) < (b : Int) := by omega
                                   go_wp2_with fail
                                   refine (symAt _ _ _ mid (mid + m - i) b (by omega) (by omega) (by omega) (IH.out mid (mid + m - i) b _ _ _ ((symM_size _ _ _ _ _ _).trans ((rotF_size _ _ _ _ _).trans HSZ.out)) (by omega) (by omega) (by omega) (by omega))).mono ?_
                                   rintro e w1 ⟨rfl, n4, os4, rfl⟩
                                   go_wp2
                                   go_end0
                                   refine ⟨rfl, n4, os4, ?_⟩
                                   rw [← HI.out, symT]
                                   try dsimp only
                                   rw [if_pos (show (mid < mid + m - i ∧ mid + m - i < b) by omega)]
                                   rw [if_pos (show (a < i ∧ i < mid) by omega)]
                                   rw [if_pos (show (i < m ∧ m < mid + m - i) by omega)])
                            · first
                                | omega
                                | (have z2a : (mid : Int) < (mid : Int) + (m : Int) - (i : Int) := by omega
                                   have z2b : ¬ (mid : Int) + (m : Int) - (i : Int) < (b : Int) := by omega
                                   go_wp2
                                   go_end0
                                   refine ⟨rfl, n3, os3, ?_⟩
                                   rw [← HI.out, symT]
                                   try dsimp only
                                   rw [if_neg (show ¬ (mid < mid + m - i ∧ mid + m - i < b) by omega)]
                                   rw [if_pos (show (a < i ∧ i < mid) by omega)]
                                   rw [if_pos (show (i < m ∧ m < mid + m - i) by omega)])
                          · first
                              | omega
                              | (have z2a : ¬ (mid : Int) < (mid : Int) + (m : Int) - (i : Int) := by omega
                                 go_wp2
                                 go_end0
                                 refine ⟨rfl, n3, os3, ?_⟩
                                 rw [← HI.out, symT]
                                 try dsimp only
                                 rw [if_neg (show ¬ (mid < mid + m - i ∧ mid + m - i < b) by omega)]
                                 rw [if_pos (show (a < i ∧ i < mid) by omega)]
                                 rw [if_pos (show (i < m ∧ m < mid + m - i) by omega)]))
                   · first
                       | omega
                       | (have z1a : (a : Int) < (i : Int) := by omega
                          have z1b : ¬ (i : Int) < (mid : Int) := by omega
                          by_cases c2a : mid < mid + m - i
                          · by_cases c2b : mid + m - i < b
                            · first
                                | omega
                                | (have z2a : (mid : Int) < (mid : Int) + (m : Int) - (i : Int) := by omega
                                   have z2b : (mid : Int) + (m : Int) - (i : Int) < (b : Int) := by omega
                                   go_wp2_with fail
                                   refine (symAt _ _ _ mid (mid + m - i) b (by omega) (by omega) (by omega) (IH.out mid (mid + m - i) b _ _ _ ((rotF_size _ _ _ _ _).trans HSZ.out) (by omega) (by omega) (by omega) (by omega))).mono ?_
                                   rintro e w1 ⟨rfl, n4, os4, rfl⟩
                                   go_wp2
                                   go_end0
                                   refine ⟨rfl, n4, os4, ?_⟩
                                   rw [← HI.out, symT]
                                   try dsimp only
                                   rw [if_pos (show (mid < mid + m - i ∧ mid + m - i < b) by omega)]
                                   rw [if_neg (show ¬ (a < i ∧ i < mid) by omega)]
                                   rw [if_pos (show (i < m ∧ m < mid + m - i) by omega)])
                            · first
                                | omega
                                | (have z2a : (mid : Int) < (mid : Int) + (m : Int) - (i : Int) := by omega
                                   have z2b : ¬ (mid : Int) + (m : Int) - (i : Int) < (b : Int) := by omega
                                   go_wp2
                                   go_end0
                                   refine ⟨rfl, n2, os', ?_⟩
                                   rw [← HI.out, symT]
                                   try dsimp only
                                   rw [if_neg (show ¬ (mid < mid + m - i ∧ mid + m - i < b) by omega)]
                                   rw [if_neg (show ¬ (a < i ∧ i < mid) by omega)]
                                   rw [if_pos (show (i < m ∧ m < mid + m - i) by omega)])
                          · first
                              | omega
                              | (have z2a : ¬ (mid : Int) < (mid : Int) + (m : Int) - (i : Int) := by omega
                                 go_wp2
                                 go_end0
                                 refine ⟨rfl, n2, os', ?_⟩
                                 rw [← HI.out, symT]
                                 try dsimp only
                                 rw [if_neg (show ¬ (mid < mid + m - i ∧ mid + m - i < b) by omega)]
                                 rw [if_neg (show ¬ (a < i ∧ i < mid) by omega)]
                                 rw [if_pos (show (i < m ∧ m < mid + m - i) by omega)]))
                 · first
                     | omega
                     | (have z1a : ¬ (a : Int) < (i : Int) := by omega
                        by_cases c2a : mid < mid + m - i
                        · by_cases c2b : mid + m - i < b
                          · first
                              | omega
                              | (have z2a : (mid : Int) < (mid : Int) + (m : Int) - (i : Int) := by omega
                                 have z2b : (mid : Int) + (m : Int) - (i : Int) < (b : Int) := by omega
                                 go_wp2_with fail
                                 refine (symAt _ _ _ mid (mid + m - i) b (by omega) (by omega) (by omega) (IH.out mid (mid + m - i) b _ _ _ ((rotF_size _ _ _ _ _).trans HSZ.out) (by omega) (by omega) (by omega) (by omega))).mono ?_
                                 rintro e w1 ⟨rfl, n4, os4, rfl⟩
                                 go_wp2
                                 go_end0
                                 refine ⟨rfl, n4, os4, ?_⟩
                                 rw [← HI.out, symT]
                                 try dsimp only
                                 rw [if_pos (show (mid < mid + m - i ∧ mid + m - i < b) by omega)]
                                 rw [if_neg (show ¬ (a < i ∧ i < mid) by omega)]
                                 rw [if_pos (show (i < m ∧ m < mid + m - i) by omega)])
                          · first
                              | omega
                              | (have z2a : (mid : Int) < (mid : Int) + (m : Int) - (i : Int) := by omega
                                 have z2b : ¬ (mid : Int) + (m : Int) - (i : Int) < (b : Int) := by omega
                                 go_wp2
                                 go_end0
                                 refine ⟨rfl, n2, os', ?_⟩
                                 rw [← HI.out, symT]
                                 try dsimp only
                                 rw [if_neg (show ¬ (mid < mid + m - i ∧ mid + m - i < b) by omega)]
                                 rw [if_neg (show ¬ (a < i ∧ i < mid) by omega)]
                                 rw [if_pos (show (i < m ∧ m < mid + m - i) by omega)])
                        · first
                            | omega
                            | (have z2a : ¬ (mid : Int) < (mid : Int) + (m : Int) - (i : Int) := by omega
                               go_wp2
                               go_end0
                               refine ⟨rfl, n2, os', ?_⟩
                               rw [← HI.out, symT]
                               try dsimp only
                               rw [if_neg (show ¬ (mid < mid + m - i ∧ mid + m - i < b) by omega)]
                               rw [if_neg (show ¬ (a < i ∧ i < mid) by omega)]
                               rw [if_pos (show (i < m ∧ m < mid + m - i) by omega)])))
          · first
              | omega
              | (have z0a : (i : Int) < (m : Int) := by omega
                 have z0b : ¬ (m : Int) < (mid : Int) + (m : Int) - (i : Int) := by omega
                 by_cases c1a : a < i
                 · by_cases c1b : i < mid
                   · first
                       | omega
                       | (have z1a : (a : Int) < (i : Int) := by omega
                          have z1b : (i : Int) < (mid : Int) := by omega
                          go_wp2_with fail
                          refine (symAt _ _ _ a i mid (by omega) (by omega) (by omega) (IH.out a i mid _ _ _ HSZ.out (by omega) (by omega) (by omega) (by omega))).mono ?_
                          rintro e w1 ⟨rfl, n3, os3, rfl⟩
                          by_cases c2a : mid < mid + m - i
                          · by_cases c2b : mid + m - i < b
                            · first
                                | omega
                                | (have z2a : (mid : Int) < (mid : Int) + (m : Int) - (i : Int) := by omega
                                   have z2b : (mid : Int) + (m : Int) - (i : Int) < (b : Int) := by omega
                                   go_wp2_with fail
                                   refine (symAt _ _ _ mid (mid + m - i) b (by omega) (by omega) (by omega) (IH.out mid (mid + m - i) b _ _ _ ((symM_size _ _ _ _ _ _).trans HSZ.out) (by omega) (by omega) (by omega) (by omega))).mono ?_
                                   rintro e w1 ⟨rfl, n4, os4, rfl⟩
                                   go_wp2
                                   go_end0
                                   refine ⟨rfl, n4, os4, ?_⟩
                                   rw [← HI.out, symT]
                                   try dsimp only
                                   rw [if_pos (show (mid < mid + m - i ∧ mid + m - i < b) by omega)]
                                   rw [if_pos (show (a < i ∧ i < mid) by omega)]
                                   rw [if_neg (show ¬ (i < m ∧ m < mid + m - i) by omega)])
                            · first
                                | omega
                                | (have z2a : (mid : Int) < (mid : Int) + (m : Int) - (i : Int) := by omega
                                   have z2b : ¬ (mid : Int) + (m : Int) - (i : Int) < (b : Int) := by omega
                                   go_wp2
                                   go_end0
                                   refine ⟨rfl, n3, os3, ?_⟩
                                   rw [← HI.out, symT]
                                   try dsimp only
                                   rw [if_neg (show ¬ (mid < mid + m - i ∧ mid + m - i < b) by omega)]
                                   rw [if_pos (show (a < i ∧ i < mid) by omega)]
                                   rw [if_neg (show ¬ (i < m ∧ m < mid + m - i) by omega)])
                          · first
                              | omega
                              | (have z2a : ¬ (mid : Int) < (mid : Int) + (m : Int) - (i : Int) := by omega
                                 go_wp2
                                 go_end0
                                 refine ⟨rfl, n3, os3, ?_⟩
                                 rw [← HI.out, symT]
                                 try dsimp only
                                 rw [if_neg (show ¬ (mid < mid + m - i ∧ mid + m - i < b) by omega)]
                                 rw [if_pos (show (a < i ∧ i < mid) by omega)]
                                 rw [if_neg (show ¬ (i < m ∧ m < mid + m - i) by omega)]))
                   · first
                       | omega
                       | (have z1a : (a : Int) < (i : Int) := by omega
                          have z1b : ¬ (i : Int) < (mid : Int) := by omega
                          by_cases c2a : mid < mid + m - i
                          · by_cases c2b : mid + m - i < b
                            · first
                                | omega
                                | (have z2a : (mid : Int) < (mid : Int) + (m : Int) - (i : Int) := by omega
                                   have z2b : (mid : Int) + (m : Int) - (i : Int) < (b : Int) := by omega
                                   go_wp2_with fail
                                   refine (symAt _ _ _ mid (mid + m - i) b (by omega) (by omega) (by omega) (IH.out mid (mid + m - i) b _ _ _ HSZ.out (by omega) (by omega) (by omega) (by omega))).mono ?_
                                   rintro e w1 ⟨rfl, n4, os4, rfl⟩
                                   go_wp2
                                   go_end0
                                   refine ⟨rfl, n4, os4, ?_⟩
                                   rw [← HI.out, symT]
                                   try dsimp only
                                   rw [if_pos (show (mid < mid + m - i ∧ mid + m - i < b) by omega)]
                                   rw [if_neg (show ¬ (a < i ∧ i < mid) by omega)]
                                   rw [if_neg (show ¬ (i < m ∧ m < mid + m - i) by omega)])
                            · first
                                | omega
                                | (have z2a : (mid : Int) < (mid : Int) + (m : Int) - (i : Int) := by omega
                                   have z2b : ¬ (mid : Int) + (m : Int) - (i : Int) < (b : Int) := by omega
                                   go_wp2
                                   go_end0
                                   refine ⟨rfl, n, os', ?_⟩
                                   rw [← HI.out, symT]
                                   try dsimp only
                                   rw [if_neg (show ¬ (mid < mid + m - i ∧ mid + m - i < b) by omega)]
                                   rw [if_neg (show ¬ (a < i ∧ i < mid) by omega)]
                                   rw [if_neg (show ¬ (i < m ∧ m < mid + m - i) by omega)])
                          · first
                              | omega
                              | (have z2a : ¬ (mid : Int) < (mid : Int) + (m : Int) - (i : Int) := by omega
                                 go_wp2
                                 go_end0
                                 refine ⟨rfl, n, os', ?_⟩
                                 rw [← HI.out, symT]
                                 try dsimp only
                                 rw [if_neg (show ¬ (mid < mid + m - i ∧ mid + m - i < b) by omega)]
                                 rw [if_neg (show ¬ (a < i ∧ i < mid) by omega)]
                                 rw [if_neg (show ¬ (i < m ∧ m < mid + m - i) by omega)]))
                 · first
                     | omega
                     | (have z1a : ¬ (a : Int) < (i : Int) := by omega
                        by_cases c2a : mid < mid + m - i
                        · by_cases c2b : mid + m - i < b
                          · first
                              | omega
                              | (have z2a : (mid : Int) < (mid : Int) + (m : Int) - (i : Int) := by omega
                                 have z2b : (mid : Int) + (m : Int) - (i : Int) < (b : Int) := by omega
                                 go_wp2_with fail
                                 refine (symAt _ _ _ mid (mid + m - i) b (by omega) (by omega) (by omega) (IH.out mid (mid + m - i) b _ _ _ HSZ.out (by omega) (by omega) (by omega) (by omega))).mono ?_
                                 rintro e w1 ⟨rfl, n4, os4, rfl⟩
                                 go_wp2
                                 go_end0
                                 refine ⟨rfl, n4, os4, ?_⟩
                                 rw [← HI.out, symT]
                                 try dsimp only
                                 rw [if_pos (show (mid < mid + m - i ∧ mid + m - i < b) by omega)]
                                 rw [if_neg (show ¬ (a < i ∧ i < mid) by omega)]
                                 rw [if_neg (show ¬ (i < m ∧ m < mid + m - i) by omega)])
                          · first
                              | omega
                              | (have z2a : (mid : Int) < (mid : Int) + (m : Int) - (i : Int) := by omega
                                 have z2b : ¬ (mid : Int) + (m : Int) - (i : Int) < (b : Int) := by omega
                                 go_wp2
                                 go_end0
                                 refine ⟨rfl, n, os', ?_⟩
                                 rw [← HI.out, symT]
                                 try dsimp only
                                 rw [if_neg (show ¬ (mid < mid + m - i ∧ mid + m - i < b) by omega)]
                                 rw [if_neg (show ¬ (a < i ∧ i < mid) by omega)]
                                 rw [if_neg (show ¬ (i < m ∧ m < mid + m - i) by omega)])
                        · first
                            | omega
                            | (have z2a : ¬ (mid : Int) < (mid : Int) + (m : Int) - (i : Int) := by omega
                               go_wp2
                               go_end0
                               refine ⟨rfl, n, os', ?_⟩
                               rw [← HI.out, symT]
                               try dsimp only
                               rw [if_neg (show ¬ (mid < mid + m - i ∧ mid + m - i < b) by omega)]
                               rw [if_neg (show ¬ (a < i ∧ i < mid) by omega)]
                               rw [if_neg (show ¬ (i < m ∧ m < mid + m - i) by omega)])))
        · first
            | omega
            | (have z0a : ¬ (i : Int) < (m : Int) := by omega
               by_cases c1a : a < i
               · by_cases c1b : i < mid
                 · first
                     | omega
                     | (have z1a : (a : Int) < (i : Int) := by omega
                        have z1b : (i : Int) < (mid : Int) := by omega
                        go_wp2_with fail
                        refine (symAt _ _ _ a i mid (by omega) (by omega) (by omega) (IH.out a i mid _ _ _ HSZ.out (by omega) (by omega) (by omega) (by omega))).mono ?_
                        rintro e w1 ⟨rfl, n3, os3, rfl⟩
                        by_cases c2a : mid < mid + m - i
                        · by_cases c2b : mid + m - i < b
                          · first
                              | omega
                              | (have z2a : (mid : Int) < (mid : Int) + (m : Int) - (i : Int) := by omega
                                 have z2b : (mid : Int) + (m : Int) - (i : Int) < (b : Int) := by omega
                                 go_wp2_with fail
                                 refine (symAt _ _ _ mid (mid + m - i) b (by omega) (by omega) (by omega) (IH.out mid (mid + m - i) b _ _ _ ((symM_size _ _ _ _ _ _).trans HSZ.out) (by omega) (by omega) (by omega) (by omega))).mono ?_
                                 rintro e w1 ⟨rfl, n4, os4, rfl⟩
                                 go_wp2
                                 go_end0
                                 refine ⟨rfl, n4, os4, ?_⟩
                                 rw [← HI.out, symT]
                                 try dsimp only
                                 rw [if_pos (show (mid < mid + m - i ∧ mid + m - i < b) by omega)]
                                 rw [if_pos (show (a < i ∧ i < mid) by omega)]
                                 rw [if_neg (show ¬ (i < m ∧ m < mid + m - i) by omega)])
                          · first
                              | omega
                              | (have z2a : (mid : Int) < (mid : Int) + (m : Int) - (i : Int) := by omega
                                 have z2b : ¬ (mid : Int) + (m : Int) - (i : Int) < (b : Int) := by omega
                                 go_wp2
                                 go_end0
                                 refine ⟨rfl, n3, os3, ?_⟩
                                 rw [← HI.out, symT]
                                 try dsimp only
                                 rw [if_neg (show ¬ (mid < mid + m - i ∧ mid + m - i < b) by omega)]
                                 rw [if_pos (show (a < i ∧ i < mid) by omega)]
                                 rw [if_neg (show ¬ (i < m ∧ m < mid + m - i) by omega)])
                        · first
                            | omega
                            | (have z2a : ¬ (mid : Int) < (mid : Int) + (m : Int) - (i : Int) := by omega
                               go_wp2
                               go_end0
                               refine ⟨rfl, n3, os3, ?_⟩
                               rw [← HI.out, symT]
                               try dsimp only
                               rw [if_neg (show ¬ (mid < mid + m - i ∧ mid + m - i < b) by omega)]
                               rw [if_pos (show (a < i ∧ i < mid) by omega)]
                               rw [if_neg (show ¬ (i < m ∧ m < mid + m - i) by omega)]))
                 · first
                     | omega
                     | (have z1a : (a : Int) < (i : Int) := by omega
                        have z1b : ¬ (i : Int) < (mid : Int) := by omega
                        by_cases c2a : mid < mid + m - i
                        · by_cases c2b : mid + m - i < b
                          · first
                              | omega
                              | (have z2a : (mid : Int) < (mid : Int) + (m : Int) - (i : Int) := by omega
                                 have z2b : (mid : Int) + (m : Int) - (i : Int) < (b : Int) := by omega
                                 go_wp2_with fail
                                 refine (symAt _ _ _ mid (mid + m - i) b (by omega) (by omega) (by omega) (IH.out mid (mid + m - i) b _ _ _ HSZ.out (by omega) (by omega) (by omega) (by omega))).mono ?_
                                 rintro e w1 ⟨rfl, n4, os4, rfl⟩
                                 go_wp2
                                 go_end0
                                 refine ⟨rfl, n4, os4, ?_⟩
                                 rw [← HI.out, symT]
                                 try dsimp only
                                 rw [if_pos (show (mid < mid + m - i ∧ mid + m - i < b) by omega)]
                                 rw [if_neg (show ¬ (a < i ∧ i < mid) by omega)]
                                 rw [if_neg (show ¬ (i < m ∧ m < mid + m - i) by omega)])
                          · first
                              | omega
                              | (have z2a : (mid : Int) < (mid : Int) + (m : Int) - (i : Int) := by omega
                                 have z2b : ¬ (mid : Int) + (m : Int) - (i : Int) < (b : Int) := by omega
                                 go_wp2
                                 go_end0
                                 refine ⟨rfl, n, os', ?_⟩
                                 rw [← HI.out, symT]
                                 try dsimp only
                                 rw [if_neg (show ¬ (mid < mid + m - i ∧ mid + m - i < b) by omega)]
                                 rw [if_neg (show ¬ (a < i ∧ i < mid) by omega)]
                                 rw [if_neg (show ¬ (i < m ∧ m < mid + m - i) by omega)])
                        · first
                            | omega
                            | (have z2a : ¬ (mid : Int) < (mid : Int) + (m : Int) - (i : Int) := by omega
                               go_wp2
                               go_end0
                               refine ⟨rfl, n, os', ?_⟩
                               rw [← HI.out, symT]
                               try dsimp only
                               rw [if_neg (show ¬ (mid < mid + m - i ∧ mid + m - i < b) by omega)]
                               rw [if_neg (show ¬ (a < i ∧ i < mid) by omega)]
                               rw [if_neg (show ¬ (i < m ∧ m < mid + m - i) by omega)]))
               · first
                   | omega
                   | (have z1a : ¬ (a : Int) < (i : Int) := by omega
                      by_cases c2a : mid < mid + m - i
                      · by_cases c2b : mid + m - i < b
                        · first
                            | omega
                            | (have z2a : (mid : Int) < (mid : Int) + (m : Int) - (i : Int) := by omega
                               have z2b : (mid : Int) + (m : Int) - (i : Int) < (b : Int) := by omega
                               go_wp2_with fail
                               refine (symAt _ _ _ mid (mid + m - i) b (by omega) (by omega) (by omega) (IH.out mid (mid + m - i) b _ _ _ HSZ.out (by omega) (by omega) (by omega) (by omega))).mono ?_
                               rintro e w1 ⟨rfl, n4, os4, rfl⟩
                               go_wp2
                               go_end0
                               refine ⟨rfl, n4, os4, ?_⟩
                               rw [← HI.out, symT]
                               try dsimp only
                               rw [if_pos (show (mid < mid + m - i ∧ mid + m - i < b) by omega)]
                               rw [if_neg (show ¬ (a < i ∧ i < mid) by omega)]
                               rw [if_neg (show ¬ (i < m ∧ m < mid + m - i) by omega)])
                        · first
                            | omega
                            | (have z2a : (mid : Int) < (mid : Int) + (m : Int) - (i : Int) := by omega
                               have z2b : ¬ (mid : Int) + (m : Int) - (i : Int) < (b : Int) := by omega
                               go_wp2
                               go_end0
                               refine ⟨rfl, n, os', ?_⟩
                               rw [← HI.out, symT]
                               try dsimp only
                               rw [if_neg (show ¬ (mid < mid + m - i ∧ mid + m - i < b) by omega)]
                               rw [if_neg (show ¬ (a < i ∧ i < mid) by omega)]
                               rw [if_neg (show ¬ (i < m ∧ m < mid + m - i) by omega)])
                      · first
                          | omega
                          | (have z2a : ¬ (mid : Int) < (mid : Int) + (m : Int) - (i : Int) := by omega
                             go_wp2
                             go_end0
                             refine ⟨rfl, n, os', ?_⟩
                             rw [← HI.out, symT]
                             try dsimp only
                             rw [if_neg (show ¬ (mid < mid + m - i ∧ mid + m - i < b) by omega)]
                             rw [if_neg (show ¬ (a < i ∧ i < mid) by omega)]
                             rw [if_neg (show ¬ (i < m ∧ m < mid + m - i) by omega)])))
end
end Go.Proofs.Ytppfkbigeknedaa.Q
namespace Go.Proofs.Ytppfkbigeknedaa.Q
open Go.Shelf Go.RowKit Go.Lib Go.Sort
set_option linter.unusedVariables false
set_option linter.unusedSimpArgs false
def Pm (d d' : Array S70) : Prop := d'.size = d.size ∧ d'.toList.Perm d.toList
theorem Pm.refl (d : Array S70) : Pm d d := ⟨rfl, List.Perm.refl _⟩
theorem Pm.trans {a b c : Array S70} (h : Pm a b) (k : Pm b c) : Pm a c := ⟨k.1.trans h.1, k.2.trans h.2⟩
theorem pm_swp (d : Array S70) (i j : Nat) (hi : i < d.size) (hj : j < d.size) : Pm d (swp d i j) := by
  have h := swp_permIn d 0 d.size i j (Nat.zero_le _) hi (Nat.zero_le _) hj (Nat.le_refl _)
  refine ⟨h.1, ?_⟩
  have h2 := h.2.2
  have e : ∀ x : Array S70, x.size = d.size → x.extract 0 d.size = x := fun x hx => by rw [← hx]; simp
  rw [e _ h.1, e _ rfl] at h2
  exact h2
theorem pm_swr (a b : Nat) : ∀ (n i : Nat) (d : Array S70), a + i + n ≤ d.size → b + i + n ≤ d.size → Pm d (swr a b n i d)
  | 0, _, d, _, _ => Pm.refl d
  | n + 1, i, d, h1, h2 => by
    rw [swr]
    have hs := pm_swp d (a + i) (b + i) (by omega) (by omega)
    exact hs.trans (pm_swr a b n (i + 1) _ (by rw [hs.1]; omega) (by rw [hs.1]; omega))
theorem pm_rotF (m : Nat) : ∀ (k i j : Nat) (d : Array S70), i ≤ m → m + j ≤ d.size → Pm d (rotF m k i j d)
  | 0, _, _, d, _, _ => Pm.refl d
  | k + 1, i, j, d, h1, h2 => by
    unfold rotF
    split
    · exact pm_swr _ _ _ _ _ (by omega) (by omega)
    · split
      · have hs := pm_swr (m - i) m j 0 d (by omega) (by omega)
        exact hs.trans (pm_rotF m k _ _ _ (by omega) (by rw [hs.1]; omega))
      · have hs := pm_swr (m - i) (m + j - i) i 0 d (by omega) (by omega)
        exact hs.trans (pm_rotF m k _ _ _ (by omega) (by rw [hs.1]; omega))
theorem pm_swUp : ∀ (n k : Nat) (d : Array S70), (n = 0 ∨ k + n < d.size) → Pm d (swUp n k d)
  | 0, _, d, _ => Pm.refl d
  | n + 1, k, d, h => by
    rw [swUp]
    have hs := pm_swp d k (k + 1) (by omega) (by omega)
    exact hs.trans (pm_swUp n (k + 1) _ (by rw [hs.1]; omega))
theorem pm_swDn : ∀ (n k : Nat) (d : Array S70), (n = 0 ∨ n ≤ k ∧ k < d.size) → Pm d (swDn n k d)
  | 0, _, d, _ => Pm.refl d
  | n + 1, k, d, h => by
    rw [swDn]
    have hs := pm_swp d k (k - 1) (by omega) (by omega)
    exact hs.trans (pm_swDn n (k - 1) _ (by rw [hs.1]; omega))
theorem pm_symM (lt : S70 → S70 → Bool) : ∀ (k a m b : Nat) (d : Array S70), a < m → m < b → b ≤ d.size → Pm d (symM lt k a m b d)
  | 0, _, _, _, d, _, _, _ => Pm.refl d
  | k + 1, a, m, b, d, h1, h2, h3 => by
    unfold symM
    split
    · have := bsF_in (fun h => lt d[h]! d[a]!) (b - m) m b (by omega)
      exact pm_swUp _ _ _ (by omega)
    split
    · have := bsF_in (fun h => !lt d[m]! d[h]!) (m - a) a m (by omega)
      exact pm_swDn _ _ _ (by omega)
    dsimp only
    generalize hs0 : (if (a + b) / 2 < m then (a + b) / 2 + m - b else a) = s0
    generalize hr0 : (if (a + b) / 2 < m then (a + b) / 2 else m) = r0
    have hsr : a ≤ s0 ∧ s0 ≤ r0 ∧ r0 ≤ m ∧ r0 ≤ (a + b) / 2 := by
      subst hs0 hr0
      split <;> omega
    have hin := bsF_in (fun c => !lt d[(a + b) / 2 + m - 1 - c]! d[c]!) (r0 - s0) s0 r0 (by omega)
    generalize bsF (fun c => !lt d[(a + b) / 2 + m - 1 - c]! d[c]!) (r0 - s0) s0 r0 = s at hin ⊢
    generalize hmid : (a + b) / 2 = mid at *
    have hlow : mid + m - s ≤ b := by
      by_cases hc : mid < m
      · rw [if_pos hc] at hs0; omega
      · rw [if_neg hc] at hs0 hr0; omega
    have c1 : Pm d (if s < m ∧ m < mid + m - s then rotF m (mid + m - s - s) (m - s) (mid + m - s - m) d else d) := by
      split
      · exact pm_rotF _ _ _ _ _ (by omega) (by omega)
      · exact Pm.refl _
    generalize (if s < m ∧ m < mid + m - s then rotF m (mid + m - s - s) (m - s) (mid + m - s - m) d else d) = d1 at c1 ⊢
    have c2 : Pm d1 (if a < s ∧ s < mid then symM lt k a s mid d1 else d1) := by
      split
      · exact pm_symM lt k _ _ _ _ (by omega) (by omega) (by rw [c1.1]; omega)
      · exact Pm.refl _
    generalize (if a < s ∧ s < mid then symM lt k a s mid d1 else d1) = d2 at c2 ⊢
    refine c1.trans (c2.trans ?_)
    split
    · exact pm_symM lt k _ _ _ _ (by omega) (by omega) (by rw [c2.1, c1.1]; omega)
    · exact Pm.refl _
theorem pm_insInner (lt : S70 → S70 → Bool) (a : Nat) : ∀ (j : Nat) (d : Array S70), j < d.size → Pm d (insInner lt a j d)
  | 0, d, _ => Pm.refl d
  | j + 1, d, h => by
    rw [insInner]
    split
    · have hs := pm_swp d (j + 1) j h (by omega)
      exact hs.trans (pm_insInner lt a j _ (by rw [hs.1]; omega))
    · exact Pm.refl d
theorem pm_insOuter (lt : S70 → S70 → Bool) (a b : Nat) : ∀ (n i : Nat) (d : Array S70), b - i ≤ n → b ≤ d.size → Pm d (insOuter lt a b i d)
  | 0, i, d, h, hb => by rw [insOuter, if_neg (by omega)]; exact Pm.refl d
  | n + 1, i, d, h, hb => by
    rw [insOuter]
    split
    · have hs := pm_insInner lt a i d (by omega)
      exact hs.trans (pm_insOuter lt a b n (i + 1) _ (by omega) (by rw [hs.1]; omega))
    · exact Pm.refl d
theorem pm_ins (lt : S70 → S70 → Bool) (d : Array S70) (a b : Nat) (hb : b ≤ d.size) : Pm d (insertionSort lt d a b) := pm_insOuter lt a b _ _ d (Nat.le_refl _) hb
end Go.Proofs.Ytppfkbigeknedaa.Q
namespace Go.Proofs.Ytppfkbigeknedaa.Q
open Go.Shelf Go.RowKit Go.Lib Go.Sort
set_option linter.unusedVariables false
set_option linter.unusedSimpArgs false
set_option maxRecDepth 100000
def cmpI (a b : Int) : Int := if a < b then -1 else if b < a then 1 else 0
set_option maxHeartbeats 4000000 in
theorem cmp_nan (a : Int) (w : World) : Calls Try.prog 124 #[.int .i64 a] w fun e w' => e = .returned (.bool false) ∧ w' = w := by
  have h : (a != a) = false := by simp
  go_enter Try.func124, Try.ntmps124
  go_wp2
  go_ret
  exact ⟨rfl, rfl⟩
set_option maxHeartbeats 4000000 in
theorem cmp_int (a b : Int) (w : World) : Calls Try.prog 96 #[.int .i64 a, .int .i64 b] w fun e w' => e = .returned (.int .i64 (cmpI a b)) ∧ w' = w := by
  by_cases h1 : a < b
  · rw [show cmpI a b = -1 by unfold cmpI; rw [if_pos h1]]
    go_enter Try.func96, Try.ntmps96
    go_wp2_with (go_at_call 124; refine (cmp_nan _ _).mono ?_; rintro e w' ⟨rfl, rfl⟩)
    go_ret
    exact ⟨rfl, rfl⟩
  · by_cases h2 : b < a
    · have h3 : a > b := h2
      rw [show cmpI a b = 1 by unfold cmpI; rw [if_neg h1, if_pos h2]]
      go_enter Try.func96, Try.ntmps96
      go_wp2_with (go_at_call 124; refine (cmp_nan _ _).mono ?_; rintro e w' ⟨rfl, rfl⟩)
      go_ret
      exact ⟨rfl, rfl⟩
    · have h3 : ¬ a > b := h2
      rw [show cmpI a b = 0 by unfold cmpI; rw [if_neg h1, if_neg h2]]
      go_enter Try.func96, Try.ntmps96
      go_wp2_with (go_at_call 124; refine (cmp_nan _ _).mono ?_; rintro e w' ⟨rfl, rfl⟩)
      go_ret
      exact ⟨rfl, rfl⟩
def orI (x y : Int) : Int := if x = 0 then y else x
set_option maxHeartbeats 4000000 in
theorem cmp_or (B c : Nat) (x y : Int) (w : World) (h0 : w.cell? ⟨B, 0, none⟩ = some (.int .i64 x)) (h1 : w.cell? ⟨B, 1, none⟩ = some (.int .i64 y)) :
    Calls Try.prog 95 #[.slice (some ⟨B, 0, none⟩) 2 c] w fun e w' => e = .returned (.int .i64 (orI x y)) ∧ w' = w := by
  by_cases hx : x = 0
  · have hx1 : (x != 0) = false := by simp [hx]
    by_cases hy : y = 0
    · have hy1 : (y != 0) = false := by simp [hy]
      rw [show orI x y = 0 by unfold orI; rw [if_pos hx, hy]]
      clear hx hy
      go_enter Try.func95, Try.ntmps95
      go_wp2
      go_loop [5, 8] (fun v5 v8 => ∃ k : Nat, k ≤ 2 ∧ v8 = .int .i64 k) (fun _ v8 => 2 - (intOf v8).toNat)
      case atStart => exact ⟨0, by omega, rfl⟩
      case round =>
        obtain ⟨k, hk, rfl⟩ := hrel
        rcases (show k = 0 ∨ k = 1 ∨ k = 2 by omega) with rfl | rfl | rfl
        · go_wp2
          go_round
          case rel => exact ⟨1, by omega, rfl⟩
          case measure => simp [intOf]
        · go_wp2
          go_round
          case rel => exact ⟨2, by omega, rfl⟩
          case measure => simp [intOf]
        · go_wp2
          go_ret
          exact ⟨rfl, rfl⟩
    · have hy1 : (y != 0) = true := by simp [hy]
      rw [show orI x y = y by unfold orI; rw [if_pos hx]]
      clear hx hy
      go_enter Try.func95, Try.ntmps95
      go_wp2
      go_loop [5, 8] (fun v5 v8 => ∃ k : Nat, k ≤ 1 ∧ v8 = .int .i64 k) (fun _ v8 => 2 - (intOf v8).toNat)
      case atStart => exact ⟨0, by omega, rfl⟩
      case round =>
        obtain ⟨k, hk, rfl⟩ := hrel
        rcases (show k = 0 ∨ k = 1 by omega) with rfl | rfl
        · go_wp2
          go_round
          case rel => exact ⟨1, by omega, rfl⟩
          case measure => simp [intOf]
        · go_wp2
          go_ret
          exact ⟨rfl, rfl⟩
  · have hx1 : (x != 0) = true := by simp [hx]
    rw [show orI x y = x by unfold orI; rw [if_neg hx]]
    clear hx
    go_enter Try.func95, Try.ntmps95
    go_wp2
    go_loop [5, 8] (fun v5 v8 => v8 = .int .i64 0) (fun _ v8 => 2 - (intOf v8).toNat)
    case atStart => rfl
    case round =>
      obtain rfl := hrel
      go_wp2
      go_ret
      exact ⟨rfl, rfl⟩
def cmpPods (x y : S70) : Int := orI (cmpI x.f2 y.f2) (cmpI x.f0 y.f0)
set_option maxHeartbeats 4000000 in
theorem cmp_closure (x y : S70) (W : World) : Calls Try.prog 94 #[.agg (encP x).toArray, .agg (encP y).toArray] W fun e w' => e = .returned (.int .i64 (cmpPods x y)) ∧ ∃ q os', w' = grow (W.drewN q) os' := by
  unfold cmpPods
  have H1 := fun W' => cmp_int x.f2 y.f2 W'
  have H2 := fun W' => cmp_int x.f0 y.f0 W'
  generalize cmpI x.f2 y.f2 = p at H1 ⊢
  generalize cmpI x.f0 y.f0 = q at H2 ⊢
  have K1 : Hid _ := H1
  have K2 : Hid _ := H2
  clear H1 H2
  show Calls Try.prog 94 #[.agg #[.int .i64 x.f0, .int .i64 x.f1, .int .i64 x.f2, .int .u64 x.f3.f0, .int .u64 x.f3.f1, .int .u64 x.f3.f2, .int .u64 x.f3.f3, .int .i64 x.f4], .agg #[.int .i64 y.f0, .int .i64 y.f1, .int .i64 y.f2, .int .u64 y.f3.f0, .int .u64 y.f3.f1, .int .u64 y.f3.f2, .int .u64 y.f3.f3, .int .i64 y.f4]] W _
  go_enter Try.func94, Try.ntmps94
  go_wp2_with fail
  obtain ⟨W1, hW1⟩ : ∃ W1, (W.alloc (.cells #[.int .i64 x.f0, .int .i64 x.f1, .int .i64 x.f2, .int .u64 x.f3.f0, .int .u64 x.f3.f1, .int .u64 x.f3.f2, .int .u64 x.f3.f3, .int .i64 x.f4] 70)).alloc (.cells #[.int .i64 y.f0, .int .i64 y.f1, .int .i64 y.f2, .int .u64 y.f3.f0, .int .u64 y.f3.f1, .int .u64 y.f3.f2, .int .u64 y.f3.f3, .int .i64 y.f4] 70) = W1 := ⟨_, rfl⟩
  have l1 : W1.drew.cell? ⟨W.heap.size, 2, none⟩ = some (.int .i64 x.f2) := by rw [← hW1]; simp
  have l2 : W1.drew.cell? ⟨W.heap.size, 0, none⟩ = some (.int .i64 x.f0) := by rw [← hW1]; simp
  have l3 : W1.drew.cell? ⟨W.heap.size + 1, 2, none⟩ = some (.int .i64 y.f2) := by rw [← hW1]; simp
  have l4 : W1.drew.cell? ⟨W.heap.size + 1, 0, none⟩ = some (.int .i64 y.f0) := by rw [← hW1]; simp
  have hG : ∃ os', W1 = grow W os' := ⟨_, by rw [← hW1, alloc_eq_grow, alloc_eq_grow, grow_grow]⟩
  rw [hW1]
  have HG : Hid _ := hG
  clear hW1 hG
  refine wp_region_still_tail 10 (by kernel_rfl) (by kernel_rfl) ?_
  simp only [List.take_succ_cons, List.take_zero, List.drop_succ_cons, List.drop_zero]
  change wpStill _ _ W1.drew _ _ _
  generalize W1.drew = W2 at l1 l2 l3 l4 ⊢
  iterate 4 still_step
  still_call (K1.out _)
  iterate 4 still_step
  still_call (K2.out _)
  refine wpStill_nil ?_
  clear l1 l2 l3 l4
  go_wp2_with (go_at_call 95; refine (cmp_or _ _ p q _ (by simp) (by simp)).mono ?_; rintro e w' ⟨rfl, rfl⟩)
  go_ret
  obtain ⟨os1, h1⟩ := HG.out
  exact ⟨rfl, 1, _, by rw [h1, alloc_eq_grow, grow_grow]; rfl⟩
theorem cmpLays94 (blk size : Nat) (w : World) : CmpLays Try.prog 94 #[] encP 8 cmpPods blk 0 size w := fun _ _ _ _ x y => cmp_closure x y _
theorem eg94 : ∀ args w, (callFunc 94 args).run Try.prog w = .ok (.enter 94 args) w := enters_of Try.func94 (by kernel_rfl) rfl
def stA (lt : S70 → S70 → Bool) (n : Nat) : Nat → Nat → Array S70 → Array S70
  | 0, a, d => insertionSort lt d a n
  | k + 1, a, d => if a + 20 ≤ n then stA lt n k (a + 20) (insertionSort lt d a (a + 20)) else insertionSort lt d a n
def stB (lt : S70 → S70 → Bool) (n bs : Nat) : Nat → Nat → Array S70 → Array S70
  | 0, _, d => d
  | k + 1, a, d => if a + 2 * bs ≤ n then stB lt n bs k (a + 2 * bs) (symM lt (2 * bs) a (a + bs) (a + 2 * bs) d) else if a + bs < n then symM lt (n - a) a (a + bs) n d else d
def stC (lt : S70 → S70 → Bool) (n : Nat) : Nat → Nat → Array S70 → Array S70
  | 0, _, d => d
  | k + 1, bs, d => if bs < n then stC lt n k (2 * bs) (stB lt n bs n 0 d) else d
theorem stA_last {lt : S70 → S70 → Bool} {n k a : Nat} {d : Array S70} (h : ¬ a + 20 ≤ n) : stA lt n k a d = insertionSort lt d a n := by
  cases k with
  | zero => rfl
  | succ k => rw [stA, if_neg h]
theorem stB_last {lt : S70 → S70 → Bool} {n bs k a : Nat} {d : Array S70} (h : ¬ a + 2 * bs ≤ n) (h2 : ¬ a + bs < n) : stB lt n bs k a d = d := by
  cases k with
  | zero => rfl
  | succ k => rw [stB, if_neg h, if_neg h2]
theorem stC_last {lt : S70 → S70 → Bool} {n k bs : Nat} {d : Array S70} (h : ¬ bs < n) : stC lt n k bs d = d := by
  cases k with
  | zero => rfl
  | succ k => rw [stC, if_neg h]
def stableP (d : Array S70) : Array S70 := stC (ltOf cmpPods) d.size d.size 20 (stA (ltOf cmpPods) d.size d.size 0 d)
theorem pm_stA (lt : S70 → S70 → Bool) (n : Nat) : ∀ (k a : Nat) (d : Array S70), n = d.size → Pm d (stA lt n k a d)
  | 0, a, d, h => pm_ins _ _ _ _ (by omega)
  | k + 1, a, d, h => by
    rw [stA]
    split
    · have h1 := pm_ins lt d a (a + 20) (by omega)
      exact h1.trans (pm_stA lt n k _ _ (by rw [h1.1]; exact h))
    · exact pm_ins _ _ _ _ (by omega)
theorem pm_stB (lt : S70 → S70 → Bool) (n bs : Nat) (hb : 0 < bs) : ∀ (k a : Nat) (d : Array S70), n = d.size → Pm d (stB lt n bs k a d)
  | 0, _, d, _ => Pm.refl d
  | k + 1, a, d, h => by
    rw [stB]
    split
    · have h1 := pm_symM lt (2 * bs) a (a + bs) (a + 2 * bs) d (by omega) (by omega) (by omega)
      exact h1.trans (pm_stB lt n bs hb k _ _ (by rw [h1.1]; exact h))
    split
    · exact pm_symM lt _ _ _ _ _ (by omega) (by omega) (by omega)
    · exact Pm.refl d
theorem pm_stC (lt : S70 → S70 → Bool) (n : Nat) : ∀ (k bs : Nat) (d : Array S70), 0 < bs → n = d.size → Pm d (stC lt n k bs d)
  | 0, _, d, _, _ => Pm.refl d
  | k + 1, bs, d, hb, h => by
    rw [stC]
    split
    · have h1 := pm_stB lt n bs hb n 0 d h
      exact h1.trans (pm_stC lt n k _ _ (by omega) (by rw [h1.1]; exact h))
    · exact Pm.refl d
theorem pm_stable (d : Array S70) : Pm d (stableP d) := by
  have h1 := pm_stA (ltOf cmpPods) d.size d.size 0 d rfl
  exact h1.trans (pm_stC _ _ _ _ _ (by omega) h1.1.symm)
section
variable (w : World) (blk cap : Nat)
theorem symMerge_pod : ∀ (kk a m b m0 : Nat) (os : Array Obj) (d dk : Array S70), HoldsK encP 8 w blk 0 d → blk < w.heap.size → dk.size = d.size → a < m → m < b → b ≤ d.size → d.size < 4611686018427387904 → b - a ≤ kk →
    Calls Try.prog 140 #[.slice (some ⟨blk, 0, none⟩) d.size cap, .int .i64 a, .int .i64 m, .int .i64 b, .func (.func 94) #[] #[]] (sortWorldK encP 8 w blk 0 m0 dk os) fun e w' =>
      e = .returned (.tuple #[]) ∧ ∃ n os', w' = sortWorldK encP 8 w blk 0 n (symM (ltOf cmpPods) kk a m b dk) os'
  | 0, a, m, b, m0, os, d, dk, hH, hblk, hs, h1, h2, h3, hsz, hk => by omega
  | kk + 1, a, m, b, m0, os, d, dk, hH, hblk, hs, h1, h2, h3, hsz, hk => by
    by_cases c1 : m - a = 1
    · exact symMerge_one w blk cap 94 #[] cmpPods eg94 kk a m b d m0 os (cmpLays94 _ _ _) hH hblk dk hs c1 h2 h3 hsz
    by_cases c2 : b - m = 1
    · exact symMerge_last w blk cap 94 #[] cmpPods eg94 kk a m b d m0 os (cmpLays94 _ _ _) hH hblk dk hs h1 c1 c2 h3 hsz
    exact symMerge_gen w blk cap 94 #[] cmpPods eg94 kk a m b d m0 os (cmpLays94 _ _ _) hH hblk dk hs h1 c1 h2 c2 h3 hsz hk (fun a m b m0 os dk hs h1 h2 h3 h4 => symMerge_pod kk a m b m0 os d dk hH hblk hs h1 h2 h3 hsz h4)
theorem ins_pod (a b m0 : Nat) (os : Array Obj) (d dk : Array S70) (hH : HoldsK encP 8 w blk 0 d) (hblk : blk < w.heap.size) (hs : dk.size = d.size) (hab : a ≤ b) (hb : b ≤ d.size) (hsz : d.size < 4611686018427387904) :
    Calls Try.prog 139 #[.slice (some ⟨blk, 0, none⟩) d.size cap, .int .i64 a, .int .i64 b, .func (.func 94) #[] #[]] (sortWorldK encP 8 w blk 0 m0 dk os) fun e w' =>
      e = .returned (.tuple #[]) ∧ ∃ n os', w' = sortWorldK encP 8 w blk 0 n (insertionSort (ltOf cmpPods) dk a b) os' := by
  have hH2 := holdsK_sortWorldK_c encP 8 w blk 0 d dk m0 os hH hblk hs
  have h := AnyQ.insertionSortCmpFunc insL 8 Try.isAgg70 Try.sizeOf70 encP (fun _ => rfl) encP_one cmpPods 94 #[] blk 0 cap a b dk _ eg94 (cmpLays94 _ _ _) hH2 (Nat.lt_of_lt_of_le hblk (size_sortWorldK_c encP 8 w blk 0 m0 dk os)) hab (by omega) (by omega)
  rw [hs] at h
  refine Calls.mono (show Calls Try.prog 139 _ _ _ from h) ?_
  rintro e w' ⟨rfl, n, os', rfl⟩
  refine ⟨rfl, m0 + n, os ++ os', ?_⟩
  exact grow_step_growK encP 8 w os os' m0 n blk 0 dk _ hblk (pm_ins _ _ _ _ (by omega)).1
theorem insAt (A B : Int) (a b : Nat) (hA : A = a) (hB : B = b) {Q : Ending → World → Prop} {W : World} {v c : Value} (h : Calls Try.prog 139 #[v, .int .i64 a, .int .i64 b, c] W Q) : Calls Try.prog 139 #[v, .int .i64 A, .int .i64 B, c] W Q := by subst hA hB; exact h
set_option maxHeartbeats 8000000 in
theorem stable_pod (d : Array S70) (hH : HoldsK encP 8 w blk 0 d) (hblk : blk < w.heap.size) (hsz : d.size < 1000000000000) :
    Calls Try.prog 123 #[.slice (some ⟨blk, 0, none⟩) d.size cap, .int .i64 d.size, .func (.func 94) #[] #[]] w fun e w' =>
      e = .returned (.tuple #[]) ∧ ∃ n os, w' = sortWorldK encP 8 w blk 0 n (stableP d) os := by
  have HST : Hid (w = sortWorldK encP 8 w blk 0 0 d #[]) := by show w = _; unfold sortWorldK; rw [grow_empty]; exact (putRowK_self encP 8 w blk 0 d hH).symm
  have HH : Hid (HoldsK encP 8 w blk 0 d) := hH
  have HF : Hid (stC (ltOf cmpPods) d.size d.size 20 (stA (ltOf cmpPods) d.size d.size 0 d) = stableP d) := rfl
  rw [← HF.out]
  clear hH HF
  go_enter Try.func123, Try.ntmps123
  go_wp2
  go_loopg [7, 8] d.size (fun g1 va vb wr => ∃ (a n : Nat) (dk : Array S70) (os : Array Obj), va = .int .i64 a ∧ vb = .int .i64 ((a + 20 : Nat) : Int) ∧ a ≤ d.size ∧ d.size - a ≤ g1 ∧ wr = sortWorldK encP 8 w blk 0 n dk os ∧ Hid (Pm d dk) ∧ Hid (stA (ltOf cmpPods) d.size g1 a dk = stA (ltOf cmpPods) d.size d.size 0 d))
  case atStart => exact ⟨0, 0, d, #[], rfl, rfl, by omega, by omega, HST.out, Pm.refl d, rfl⟩
  case round =>
    obtain ⟨a, n, dk, os, rfl, rfl, ha, hg1, rfl, HP, HO⟩ := hrel
    by_cases hlt : a + 20 ≤ d.size
    · obtain ⟨g, rfl⟩ : ∃ g, gk = g + 1 := ⟨gk - 1, by omega⟩
      have hltz : ((a + 20 : Nat) : Int) ≤ (d.size : Int) := by omega
      have HO2 : Hid (stA (ltOf cmpPods) d.size g (a + 20) (insertionSort (ltOf cmpPods) dk a (a + 20)) = stA (ltOf cmpPods) d.size d.size 0 d) := by show _ = _; rw [← HO.out, stA, if_pos hlt]
      clear HO
      go_wp2_with fail
      refine (insAt _ _ a (a + 20) rfl rfl (ins_pod w blk cap a (a + 20) n os d dk HH.out hblk HP.out.1 (by omega) hlt (by omega))).mono ?_
      rintro e w1 ⟨rfl, n1, os1, rfl⟩
      go_wp2
      go_roundg g
      case measure => omega
      case rel => exact ⟨a + 20, n1, _, os1, rfl, by go_num, by omega, by omega, rfl, HP.out.trans (pm_ins _ _ _ _ (by rw [HP.out.1]; omega)), HO2⟩
    · have hltz : ¬ ((a + 20 : Nat) : Int) ≤ (d.size : Int) := by omega
      have HO2 : Hid (insertionSort (ltOf cmpPods) dk a d.size = stA (ltOf cmpPods) d.size d.size 0 d) := by show _ = _; rw [← HO.out, stA_last hlt]
      clear HO
      go_wp2_with fail
      refine (insAt _ _ a d.size rfl rfl (ins_pod w blk cap a d.size n os d dk HH.out hblk HP.out.1 ha (by omega) (by omega))).mono ?_
      rintro e w1 ⟨rfl, n1, os1, rfl⟩
      have HP1 : Hid (Pm d (insertionSort (ltOf cmpPods) dk a d.size)) := HP.out.trans (pm_ins _ _ _ _ (by rw [HP.out.1]; omega))
      have hO2 := HO2.out
      generalize insertionSort (ltOf cmpPods) dk a d.size = dk1 at HP1 hO2 ⊢
      have HD1 : Hid (dk1 = stA (ltOf cmpPods) d.size d.size 0 d) := hO2
      clear HP hltz hlt hg1 ha HO2 hO2
      go_wp2
      go_loopg [6, 7, 8, 9] d.size (fun g2 vs va vb vm wr => ∃ (bs n : Nat) (dk : Array S70) (os : Array Obj), vs = .int .i64 bs ∧ 20 ≤ bs ∧ bs ≤ 2 * d.size + 20 ∧ d.size - bs ≤ g2 ∧ wr = sortWorldK encP 8 w blk 0 n dk os ∧ Hid (Pm d dk) ∧ Hid (stC (ltOf cmpPods) d.size g2 bs dk = stC (ltOf cmpPods) d.size d.size 20 dk1))
      case atStart => exact ⟨20, n1, dk1, os1, rfl, by omega, by omega, by omega, rfl, HP1, rfl⟩
      case round =>
        obtain ⟨bs, n2, dk2, os2, rfl, hb1, hb3, hg2, rfl, HP2, HO⟩ := hrel
        by_cases hb2 : bs < d.size
        · have hbz : (bs : Int) < (d.size : Int) := by omega
          obtain ⟨g, rfl⟩ : ∃ g, gk = g + 1 := ⟨gk - 1, by omega⟩
          have HO2 : Hid (stC (ltOf cmpPods) d.size g (2 * bs) (stB (ltOf cmpPods) d.size bs d.size 0 dk2) = stC (ltOf cmpPods) d.size d.size 20 dk1) := by show _ = _; rw [← HO.out, stC, if_pos hb2]
          clear HO
          go_wp2
          go_loopg [7, 8] d.size (fun g3 va vb wr => ∃ (a n : Nat) (dk : Array S70) (os : Array Obj), va = .int .i64 a ∧ vb = .int .i64 ((a + 2 * bs : Nat) : Int) ∧ a ≤ d.size ∧ d.size - a ≤ g3 ∧ wr = sortWorldK encP 8 w blk 0 n dk os ∧ Hid (Pm d dk) ∧ Hid (stB (ltOf cmpPods) d.size bs g3 a dk = stB (ltOf cmpPods) d.size bs d.size 0 dk2))
          case atStart => exact ⟨0, n2, dk2, os2, rfl, by go_num, by omega, by omega, rfl, HP2, rfl⟩
          case round =>
            obtain ⟨a, n, dk, os, rfl, rfl, ha, hg3, rfl, HP, HQ⟩ := hrel
            by_cases hlt : a + 2 * bs ≤ d.size
            · have hltz : ((a + 2 * bs : Nat) : Int) ≤ (d.size : Int) := by omega
              obtain ⟨g4, rfl⟩ : ∃ g, gk = g + 1 := ⟨gk - 1, by omega⟩
              have HQ2 : Hid (stB (ltOf cmpPods) d.size bs g4 (a + 2 * bs) (symM (ltOf cmpPods) (2 * bs) a (a + bs) (a + 2 * bs) dk) = stB (ltOf cmpPods) d.size bs d.size 0 dk2) := by show _ = _; rw [← HQ.out, stB, if_pos hlt]
              clear HQ
              go_wp2_with fail
              refine (symAt _ _ _ a (a + bs) (a + 2 * bs) (by omega) (by omega) (by omega) (symMerge_pod w blk cap (2 * bs) a (a + bs) (a + 2 * bs) n os d dk HH.out hblk HP.out.1 (by omega) (by omega) hlt (by omega) (by omega))).mono ?_
              rintro e w1 ⟨rfl, n3, os3, rfl⟩
              go_wp2
              go_roundg g4
              case measure => omega
              case rel => exact ⟨a + 2 * bs, n3, _, os3, rfl, by go_num, by omega, by omega, rfl, HP.out.trans (pm_symM _ _ _ _ _ _ (by omega) (by omega) (by rw [HP.out.1]; omega)), HQ2⟩
            · have hltz : ¬ ((a + 2 * bs : Nat) : Int) ≤ (d.size : Int) := by omega
              by_cases hm : a + bs < d.size
              · have hmz : (a : Int) + (bs : Int) < (d.size : Int) := by omega
                have HQ2 : Hid (symM (ltOf cmpPods) (d.size - a) a (a + bs) d.size dk = stB (ltOf cmpPods) d.size bs d.size 0 dk2) := by
                  show _ = _
                  obtain ⟨g5, hg5⟩ : ∃ g, gk = g + 1 := ⟨gk - 1, by omega⟩
                  rw [← HQ.out, hg5, stB, if_neg hlt, if_pos hm]
                clear HQ
                go_wp2_with fail
                refine (symAt _ _ _ a (a + bs) d.size (by omega) (by omega) (by omega) (symMerge_pod w blk cap (d.size - a) a (a + bs) d.size n os d dk HH.out hblk HP.out.1 (by omega) (by omega) (by omega) (by omega) (Nat.le_refl _))).mono ?_
                rintro e w1 ⟨rfl, n3, os3, rfl⟩
                go_wp2
                go_roundg g
                case measure => omega
                case rel => exact ⟨2 * bs, n3, _, os3, by go_num, by omega, by omega, by omega, rfl, HP.out.trans (pm_symM _ _ _ _ _ _ (by omega) (by omega) (by rw [HP.out.1]; omega)), by rw [HQ2.out]; exact HO2⟩
              · have hmz : ¬ (a : Int) + (bs : Int) < (d.size : Int) := by omega
                have HQ2 : Hid (dk = stB (ltOf cmpPods) d.size bs d.size 0 dk2) := by
                  show _ = _
                  rw [← HQ.out, stB_last hlt hm]
                clear HQ
                go_wp2
                go_roundg g
                case measure => omega
                case rel => exact ⟨2 * bs, n, dk, os, by go_num, by omega, by omega, by omega, rfl, HP, by show _ = _; rw [HQ2.out]; exact HO2.out⟩
        · have hbz : ¬ (bs : Int) < (d.size : Int) := by omega
          have HO2 : Hid (dk2 = stC (ltOf cmpPods) d.size d.size 20 dk1) := by show _ = _; rw [← HO.out, stC_last hb2]
          clear HO
          go_wp2
          go_end0
          exact ⟨rfl, n2, os2, by rw [← HD1.out, ← HO2.out]⟩
set_option maxHeartbeats 8000000 in
theorem sortStable_pod (d : Array S70) (hH : HoldsK encP 8 w blk 0 d) (hblk : blk < w.heap.size) (hsz : d.size < 1000000000000) :
    Calls Try.prog 93 #[.slice (some ⟨blk, 0, none⟩) d.size cap, .func (.func 94) #[] #[]] w fun e w' =>
      e = .returned (.tuple #[]) ∧ ∃ n os, w' = sortWorldK encP 8 w blk 0 n (stableP d) os := by
  have h := stable_pod w blk cap d hH hblk hsz
  generalize stableP d = dS at h ⊢
  clear hH
  go_enter Try.func93, Try.ntmps93
  go_wp2_with fail
  refine h.mono ?_
  rintro e w1 ⟨rfl, n, os, rfl⟩
  clear h
  go_wp2
  go_end0
  exact ⟨rfl, n, os, rfl⟩
end
end Go.Proofs.Ytppfkbigeknedaa.Q
