/- slices.SortStableFunc of pods, by hand: what the Go code comes to, as functions of arrays. -/
import Derived.Test.YtppfkbigeknedaaQ0
import Derived.Shelf.SlSortCmp.InsertionK
namespace Go.Proofs.Ytppfkbigeknedaa.Q
open Go.Shelf Go.RowKit Go.Lib Go.Sort
set_option linter.unusedVariables false
set_option linter.unusedSimpArgs false
set_option maxRecDepth 100000
instance : Inhabited S70 := ⟨z70⟩
def encP (x : S70) : List Value := [.int .i64 x.f0, .int .i64 x.f1, .int .i64 x.f2, .int .u64 x.f3.f0, .int .u64 x.f3.f1, .int .u64 x.f3.f2, .int .u64 x.f3.f3, .int .i64 x.f4]
theorem encP_len (x : S70) : (encP x).length = 8 := rfl
theorem encP_one (x : S70) : ∀ v ∈ encP x, v.oneCell' = true := by
  intro v hv
  simp only [encP, List.mem_cons, List.not_mem_nil, or_false] at hv
  rcases hv with rfl | rfl | rfl | rfl | rfl | rfl | rfl | rfl <;> rfl
def swr (a b : Nat) : Nat → Nat → Array S70 → Array S70
  | 0, _, d => d
  | n + 1, i, d => swr a b n (i + 1) (swp d (a + i) (b + i))
def insRen : Ren := ⟨fun x => if x = 20 then 139 else x, fun x => if x = 22 then 24 else if x = 24 then 70 else if x = 25 then 138 else x, fun x => x⟩
theorem insL : SlLaysF0.n20 Try.prog insRen := {
  mixed := by kernel_rfl
  f20 := ⟨Try.f139.name, by decide, Try.func139.trans (by kernel_rfl)⟩
  t0 := by kernel_rfl
  a0 := fun w => by kernel_rfl
  z0 := fun w => by kernel_rfl
  v0 := fun w => by kernel_rfl
  t3 := by kernel_rfl
  a3 := fun w => by kernel_rfl
  z3 := fun w => by kernel_rfl
  v3 := fun w => by kernel_rfl
  t4 := by kernel_rfl
  a4 := fun w => by kernel_rfl
  z4 := fun w => by kernel_rfl
  v4 := fun w => by kernel_rfl
  t22 := by kernel_rfl
  a22 := fun w => by kernel_rfl
  z22 := fun w => by kernel_rfl
  v22 := fun w => by kernel_rfl
  t25 := by kernel_rfl
  a25 := fun w => by kernel_rfl
  z25 := fun w => by kernel_rfl
  v25 := fun w => by kernel_rfl }
theorem cells8 {W : World} {blk : Nat} {dj : Array S70} (h : HoldsK encP 8 W blk 0 dj) {i : Nat} {x : S70} (hi : i < dj.size) (hx : dj[i]! = x) :
    (W.cell? ⟨blk, i * 8, none⟩ = some (.int .i64 x.f0) ∧ W.cell? ⟨blk, i * 8 + 1, none⟩ = some (.int .i64 x.f1) ∧ W.cell? ⟨blk, i * 8 + 2, none⟩ = some (.int .i64 x.f2) ∧ W.cell? ⟨blk, i * 8 + 3, none⟩ = some (.int .u64 x.f3.f0) ∧
    W.cell? ⟨blk, i * 8 + 4, none⟩ = some (.int .u64 x.f3.f1) ∧ W.cell? ⟨blk, i * 8 + 5, none⟩ = some (.int .u64 x.f3.f2) ∧ W.cell? ⟨blk, i * 8 + 6, none⟩ = some (.int .u64 x.f3.f3) ∧ W.cell? ⟨blk, i * 8 + 7, none⟩ = some (.int .i64 x.f4)) ∧
    (W.frozen? ⟨blk, i * 8, none⟩ = false ∧ W.frozen? ⟨blk, i * 8 + 1, none⟩ = false ∧ W.frozen? ⟨blk, i * 8 + 2, none⟩ = false ∧ W.frozen? ⟨blk, i * 8 + 3, none⟩ = false ∧
    W.frozen? ⟨blk, i * 8 + 4, none⟩ = false ∧ W.frozen? ⟨blk, i * 8 + 5, none⟩ = false ∧ W.frozen? ⟨blk, i * 8 + 6, none⟩ = false ∧ W.frozen? ⟨blk, i * 8 + 7, none⟩ = false) := by
  have hc : ∀ c, c < 8 → W.cell? ⟨blk, i * 8 + c, none⟩ = some ((encP x)[c]!) ∧ W.frozen? ⟨blk, i * 8 + c, none⟩ = false := by
    intro c hc
    have := HoldsK.cell h hi hc
    rw [hx] at this
    simpa using this
  refine ⟨⟨(hc 0 (by omega)).1, (hc 1 (by omega)).1, (hc 2 (by omega)).1, (hc 3 (by omega)).1, (hc 4 (by omega)).1, (hc 5 (by omega)).1, (hc 6 (by omega)).1, (hc 7 (by omega)).1⟩,
    ⟨(hc 0 (by omega)).2, (hc 1 (by omega)).2, (hc 2 (by omega)).2, (hc 3 (by omega)).2, (hc 4 (by omega)).2, (hc 5 (by omega)).2, (hc 6 (by omega)).2, (hc 7 (by omega)).2⟩⟩
theorem set8 (W : World) (blk s : Nat) (x : S70) : W.setCells blk s (encP x) = ((((((((W.setCell ⟨blk, s, none⟩ (.int .i64 x.f0)).setCell ⟨blk, s + 1, none⟩ (.int .i64 x.f1)).setCell ⟨blk, s + 2, none⟩ (.int .i64 x.f2)).setCell ⟨blk, s + 3, none⟩ (.int .u64 x.f3.f0)).setCell ⟨blk, s + 4, none⟩ (.int .u64 x.f3.f1)).setCell ⟨blk, s + 5, none⟩ (.int .u64 x.f3.f2)).setCell ⟨blk, s + 6, none⟩ (.int .u64 x.f3.f3)).setCell ⟨blk, s + 7, none⟩ (.int .i64 x.f4)) := rfl
theorem set16 (W : World) (blk s t : Nat) (x y : S70) : ((((((((((((((((W.setCell ⟨blk, s, none⟩ (.int .i64 x.f0)).setCell ⟨blk, s + 1, none⟩ (.int .i64 x.f1)).setCell ⟨blk, s + 2, none⟩ (.int .i64 x.f2)).setCell ⟨blk, s + 3, none⟩ (.int .u64 x.f3.f0)).setCell ⟨blk, s + 4, none⟩ (.int .u64 x.f3.f1)).setCell ⟨blk, s + 5, none⟩ (.int .u64 x.f3.f2)).setCell ⟨blk, s + 6, none⟩ (.int .u64 x.f3.f3)).setCell ⟨blk, s + 7, none⟩ (.int .i64 x.f4)).setCell ⟨blk, t, none⟩ (.int .i64 y.f0)).setCell ⟨blk, t + 1, none⟩ (.int .i64 y.f1)).setCell ⟨blk, t + 2, none⟩ (.int .i64 y.f2)).setCell ⟨blk, t + 3, none⟩ (.int .u64 y.f3.f0)).setCell ⟨blk, t + 4, none⟩ (.int .u64 y.f3.f1)).setCell ⟨blk, t + 5, none⟩ (.int .u64 y.f3.f2)).setCell ⟨blk, t + 6, none⟩ (.int .u64 y.f3.f3)).setCell ⟨blk, t + 7, none⟩ (.int .i64 y.f4)).drew = (W.drew.setCells blk s (encP x)).setCells blk t (encP y) := by
  rw [set8, set8]
  simp only [World.setCell_drew]
theorem after8 {W : World} {blk : Nat} {F : Array Value} (h : Holds id W blk 0 F) (s : Nat) (x : S70) (hs : s + 8 ≤ F.size) (t : Nat) (ht : t + 8 ≤ F.size) : ∃ v0 v1 v2 v3 v4 v5 v6 v7 : Value,
    (((((((((W.setCell ⟨blk, s, none⟩ (.int .i64 x.f0)).setCell ⟨blk, s + 1, none⟩ (.int .i64 x.f1)).setCell ⟨blk, s + 2, none⟩ (.int .i64 x.f2)).setCell ⟨blk, s + 3, none⟩ (.int .u64 x.f3.f0)).setCell ⟨blk, s + 4, none⟩ (.int .u64 x.f3.f1)).setCell ⟨blk, s + 5, none⟩ (.int .u64 x.f3.f2)).setCell ⟨blk, s + 6, none⟩ (.int .u64 x.f3.f3)).setCell ⟨blk, s + 7, none⟩ (.int .i64 x.f4)).cell? ⟨blk, t, none⟩ = some v0 ∧ ((((((((W.setCell ⟨blk, s, none⟩ (.int .i64 x.f0)).setCell ⟨blk, s + 1, none⟩ (.int .i64 x.f1)).setCell ⟨blk, s + 2, none⟩ (.int .i64 x.f2)).setCell ⟨blk, s + 3, none⟩ (.int .u64 x.f3.f0)).setCell ⟨blk, s + 4, none⟩ (.int .u64 x.f3.f1)).setCell ⟨blk, s + 5, none⟩ (.int .u64 x.f3.f2)).setCell ⟨blk, s + 6, none⟩ (.int .u64 x.f3.f3)).setCell ⟨blk, s + 7, none⟩ (.int .i64 x.f4)).cell? ⟨blk, t + 1, none⟩ = some v1 ∧ ((((((((W.setCell ⟨blk, s, none⟩ (.int .i64 x.f0)).setCell ⟨blk, s + 1, none⟩ (.int .i64 x.f1)).setCell ⟨blk, s + 2, none⟩ (.int .i64 x.f2)).setCell ⟨blk, s + 3, none⟩ (.int .u64 x.f3.f0)).setCell ⟨blk, s + 4, none⟩ (.int .u64 x.f3.f1)).setCell ⟨blk, s + 5, none⟩ (.int .u64 x.f3.f2)).setCell ⟨blk, s + 6, none⟩ (.int .u64 x.f3.f3)).setCell ⟨blk, s + 7, none⟩ (.int .i64 x.f4)).cell? ⟨blk, t + 2, none⟩ = some v2 ∧ ((((((((W.setCell ⟨blk, s, none⟩ (.int .i64 x.f0)).setCell ⟨blk, s + 1, none⟩ (.int .i64 x.f1)).setCell ⟨blk, s + 2, none⟩ (.int .i64 x.f2)).setCell ⟨blk, s + 3, none⟩ (.int .u64 x.f3.f0)).setCell ⟨blk, s + 4, none⟩ (.int .u64 x.f3.f1)).setCell ⟨blk, s + 5, none⟩ (.int .u64 x.f3.f2)).setCell ⟨blk, s + 6, none⟩ (.int .u64 x.f3.f3)).setCell ⟨blk, s + 7, none⟩ (.int .i64 x.f4)).cell? ⟨blk, t + 3, none⟩ = some v3 ∧ ((((((((W.setCell ⟨blk, s, none⟩ (.int .i64 x.f0)).setCell ⟨blk, s + 1, none⟩ (.int .i64 x.f1)).setCell ⟨blk, s + 2, none⟩ (.int .i64 x.f2)).setCell ⟨blk, s + 3, none⟩ (.int .u64 x.f3.f0)).setCell ⟨blk, s + 4, none⟩ (.int .u64 x.f3.f1)).setCell ⟨blk, s + 5, none⟩ (.int .u64 x.f3.f2)).setCell ⟨blk, s + 6, none⟩ (.int .u64 x.f3.f3)).setCell ⟨blk, s + 7, none⟩ (.int .i64 x.f4)).cell? ⟨blk, t + 4, none⟩ = some v4 ∧ ((((((((W.setCell ⟨blk, s, none⟩ (.int .i64 x.f0)).setCell ⟨blk, s + 1, none⟩ (.int .i64 x.f1)).setCell ⟨blk, s + 2, none⟩ (.int .i64 x.f2)).setCell ⟨blk, s + 3, none⟩ (.int .u64 x.f3.f0)).setCell ⟨blk, s + 4, none⟩ (.int .u64 x.f3.f1)).setCell ⟨blk, s + 5, none⟩ (.int .u64 x.f3.f2)).setCell ⟨blk, s + 6, none⟩ (.int .u64 x.f3.f3)).setCell ⟨blk, s + 7, none⟩ (.int .i64 x.f4)).cell? ⟨blk, t + 5, none⟩ = some v5 ∧ ((((((((W.setCell ⟨blk, s, none⟩ (.int .i64 x.f0)).setCell ⟨blk, s + 1, none⟩ (.int .i64 x.f1)).setCell ⟨blk, s + 2, none⟩ (.int .i64 x.f2)).setCell ⟨blk, s + 3, none⟩ (.int .u64 x.f3.f0)).setCell ⟨blk, s + 4, none⟩ (.int .u64 x.f3.f1)).setCell ⟨blk, s + 5, none⟩ (.int .u64 x.f3.f2)).setCell ⟨blk, s + 6, none⟩ (.int .u64 x.f3.f3)).setCell ⟨blk, s + 7, none⟩ (.int .i64 x.f4)).cell? ⟨blk, t + 6, none⟩ = some v6 ∧ ((((((((W.setCell ⟨blk, s, none⟩ (.int .i64 x.f0)).setCell ⟨blk, s + 1, none⟩ (.int .i64 x.f1)).setCell ⟨blk, s + 2, none⟩ (.int .i64 x.f2)).setCell ⟨blk, s + 3, none⟩ (.int .u64 x.f3.f0)).setCell ⟨blk, s + 4, none⟩ (.int .u64 x.f3.f1)).setCell ⟨blk, s + 5, none⟩ (.int .u64 x.f3.f2)).setCell ⟨blk, s + 6, none⟩ (.int .u64 x.f3.f3)).setCell ⟨blk, s + 7, none⟩ (.int .i64 x.f4)).cell? ⟨blk, t + 7, none⟩ = some v7) ∧ (((((((((W.setCell ⟨blk, s, none⟩ (.int .i64 x.f0)).setCell ⟨blk, s + 1, none⟩ (.int .i64 x.f1)).setCell ⟨blk, s + 2, none⟩ (.int .i64 x.f2)).setCell ⟨blk, s + 3, none⟩ (.int .u64 x.f3.f0)).setCell ⟨blk, s + 4, none⟩ (.int .u64 x.f3.f1)).setCell ⟨blk, s + 5, none⟩ (.int .u64 x.f3.f2)).setCell ⟨blk, s + 6, none⟩ (.int .u64 x.f3.f3)).setCell ⟨blk, s + 7, none⟩ (.int .i64 x.f4)).frozen? ⟨blk, t, none⟩ = false ∧ ((((((((W.setCell ⟨blk, s, none⟩ (.int .i64 x.f0)).setCell ⟨blk, s + 1, none⟩ (.int .i64 x.f1)).setCell ⟨blk, s + 2, none⟩ (.int .i64 x.f2)).setCell ⟨blk, s + 3, none⟩ (.int .u64 x.f3.f0)).setCell ⟨blk, s + 4, none⟩ (.int .u64 x.f3.f1)).setCell ⟨blk, s + 5, none⟩ (.int .u64 x.f3.f2)).setCell ⟨blk, s + 6, none⟩ (.int .u64 x.f3.f3)).setCell ⟨blk, s + 7, none⟩ (.int .i64 x.f4)).frozen? ⟨blk, t + 1, none⟩ = false ∧ ((((((((W.setCell ⟨blk, s, none⟩ (.int .i64 x.f0)).setCell ⟨blk, s + 1, none⟩ (.int .i64 x.f1)).setCell ⟨blk, s + 2, none⟩ (.int .i64 x.f2)).setCell ⟨blk, s + 3, none⟩ (.int .u64 x.f3.f0)).setCell ⟨blk, s + 4, none⟩ (.int .u64 x.f3.f1)).setCell ⟨blk, s + 5, none⟩ (.int .u64 x.f3.f2)).setCell ⟨blk, s + 6, none⟩ (.int .u64 x.f3.f3)).setCell ⟨blk, s + 7, none⟩ (.int .i64 x.f4)).frozen? ⟨blk, t + 2, none⟩ = false ∧ ((((((((W.setCell ⟨blk, s, none⟩ (.int .i64 x.f0)).setCell ⟨blk, s + 1, none⟩ (.int .i64 x.f1)).setCell ⟨blk, s + 2, none⟩ (.int .i64 x.f2)).setCell ⟨blk, s + 3, none⟩ (.int .u64 x.f3.f0)).setCell ⟨blk, s + 4, none⟩ (.int .u64 x.f3.f1)).setCell ⟨blk, s + 5, none⟩ (.int .u64 x.f3.f2)).setCell ⟨blk, s + 6, none⟩ (.int .u64 x.f3.f3)).setCell ⟨blk, s + 7, none⟩ (.int .i64 x.f4)).frozen? ⟨blk, t + 3, none⟩ = false ∧ ((((((((W.setCell ⟨blk, s, none⟩ (.int .i64 x.f0)).setCell ⟨blk, s + 1, none⟩ (.int .i64 x.f1)).setCell ⟨blk, s + 2, none⟩ (.int .i64 x.f2)).setCell ⟨blk, s + 3, none⟩ (.int .u64 x.f3.f0)).setCell ⟨blk, s + 4, none⟩ (.int .u64 x.f3.f1)).setCell ⟨blk, s + 5, none⟩ (.int .u64 x.f3.f2)).setCell ⟨blk, s + 6, none⟩ (.int .u64 x.f3.f3)).setCell ⟨blk, s + 7, none⟩ (.int .i64 x.f4)).frozen? ⟨blk, t + 4, none⟩ = false ∧ ((((((((W.setCell ⟨blk, s, none⟩ (.int .i64 x.f0)).setCell ⟨blk, s + 1, none⟩ (.int .i64 x.f1)).setCell ⟨blk, s + 2, none⟩ (.int .i64 x.f2)).setCell ⟨blk, s + 3, none⟩ (.int .u64 x.f3.f0)).setCell ⟨blk, s + 4, none⟩ (.int .u64 x.f3.f1)).setCell ⟨blk, s + 5, none⟩ (.int .u64 x.f3.f2)).setCell ⟨blk, s + 6, none⟩ (.int .u64 x.f3.f3)).setCell ⟨blk, s + 7, none⟩ (.int .i64 x.f4)).frozen? ⟨blk, t + 5, none⟩ = false ∧ ((((((((W.setCell ⟨blk, s, none⟩ (.int .i64 x.f0)).setCell ⟨blk, s + 1, none⟩ (.int .i64 x.f1)).setCell ⟨blk, s + 2, none⟩ (.int .i64 x.f2)).setCell ⟨blk, s + 3, none⟩ (.int .u64 x.f3.f0)).setCell ⟨blk, s + 4, none⟩ (.int .u64 x.f3.f1)).setCell ⟨blk, s + 5, none⟩ (.int .u64 x.f3.f2)).setCell ⟨blk, s + 6, none⟩ (.int .u64 x.f3.f3)).setCell ⟨blk, s + 7, none⟩ (.int .i64 x.f4)).frozen? ⟨blk, t + 6, none⟩ = false ∧ ((((((((W.setCell ⟨blk, s, none⟩ (.int .i64 x.f0)).setCell ⟨blk, s + 1, none⟩ (.int .i64 x.f1)).setCell ⟨blk, s + 2, none⟩ (.int .i64 x.f2)).setCell ⟨blk, s + 3, none⟩ (.int .u64 x.f3.f0)).setCell ⟨blk, s + 4, none⟩ (.int .u64 x.f3.f1)).setCell ⟨blk, s + 5, none⟩ (.int .u64 x.f3.f2)).setCell ⟨blk, s + 6, none⟩ (.int .u64 x.f3.f3)).setCell ⟨blk, s + 7, none⟩ (.int .i64 x.f4)).frozen? ⟨blk, t + 7, none⟩ = false) := by
  have hN := holds_setCells_c h s (encP x) (by rw [encP_len]; exact hs)
  rw [Nat.zero_add, set8] at hN
  have hc : ∀ c, c < 8 → ∃ v, ((((((((W.setCell ⟨blk, s, none⟩ (.int .i64 x.f0)).setCell ⟨blk, s + 1, none⟩ (.int .i64 x.f1)).setCell ⟨blk, s + 2, none⟩ (.int .i64 x.f2)).setCell ⟨blk, s + 3, none⟩ (.int .u64 x.f3.f0)).setCell ⟨blk, s + 4, none⟩ (.int .u64 x.f3.f1)).setCell ⟨blk, s + 5, none⟩ (.int .u64 x.f3.f2)).setCell ⟨blk, s + 6, none⟩ (.int .u64 x.f3.f3)).setCell ⟨blk, s + 7, none⟩ (.int .i64 x.f4)).cell? ⟨blk, t + c, none⟩ = some v ∧ ((((((((W.setCell ⟨blk, s, none⟩ (.int .i64 x.f0)).setCell ⟨blk, s + 1, none⟩ (.int .i64 x.f1)).setCell ⟨blk, s + 2, none⟩ (.int .i64 x.f2)).setCell ⟨blk, s + 3, none⟩ (.int .u64 x.f3.f0)).setCell ⟨blk, s + 4, none⟩ (.int .u64 x.f3.f1)).setCell ⟨blk, s + 5, none⟩ (.int .u64 x.f3.f2)).setCell ⟨blk, s + 6, none⟩ (.int .u64 x.f3.f3)).setCell ⟨blk, s + 7, none⟩ (.int .i64 x.f4)).frozen? ⟨blk, t + c, none⟩ = false := by
    intro c hc
    have := hN (t + c) (by rw [size_setMany]; omega)
    rw [Nat.zero_add] at this
    exact ⟨_, this.1, this.2⟩
  obtain ⟨v0, a0, b0⟩ := hc 0 (by omega)
  obtain ⟨v1, a1, b1⟩ := hc 1 (by omega)
  obtain ⟨v2, a2, b2⟩ := hc 2 (by omega)
  obtain ⟨v3, a3, b3⟩ := hc 3 (by omega)
  obtain ⟨v4, a4, b4⟩ := hc 4 (by omega)
  obtain ⟨v5, a5, b5⟩ := hc 5 (by omega)
  obtain ⟨v6, a6, b6⟩ := hc 6 (by omega)
  obtain ⟨v7, a7, b7⟩ := hc 7 (by omega)
  exact ⟨_, _, _, _, _, _, _, _, ⟨a0, a1, a2, a3, a4, a5, a6, a7⟩, ⟨b0, b1, b2, b3, b4, b5, b6, b7⟩⟩
theorem swr_size (a b : Nat) : ∀ (n i : Nat) (d : Array S70), (swr a b n i d).size = d.size
  | 0, _, _ => rfl
  | n + 1, i, d => by rw [swr, swr_size a b n]; exact size_swp _ _ _
section
variable (w : World) (blk cap : Nat)
set_option maxHeartbeats 4000000 in
/-- swapRangeCmpFunc. -/
theorem swapRange_pod (cmp : Value) (a b n : Nat) (d : Array S70) (m0 : Nat) (os : Array Obj) (hH : HoldsK encP 8 w blk 0 d) (hblk : blk < w.heap.size) (dk : Array S70) (hs : dk.size = d.size) (ha : a + n ≤ d.size) (hb : b + n ≤ d.size) (hsz : d.size < 4611686018427387904) :
    Calls Try.prog 167 #[.slice (some ⟨blk, 0, none⟩) d.size cap, .int .i64 a, .int .i64 b, .int .i64 n, cmp] (sortWorldK encP 8 w blk 0 m0 dk os) fun e w' =>
      e = .returned (.tuple #[]) ∧ ∃ m, w' = sortWorldK encP 8 w blk 0 m (swr a b n 0 dk) os := by
  have HH : Hid (HoldsK encP 8 w blk 0 d) := hH
  have HSZ : Hid (dk.size = d.size) := hs
  clear hH hs
  have mixed : Try.prog.follows .mixedOrders = true := by kernel_rfl
  go_enter Try.func167, Try.ntmps167
  go_wp2
  go_loopg [10] n (fun g1 vi wr => ∃ (i m : Nat) (dj : Array S70), vi = .int .i64 i ∧ i ≤ n ∧ n - i ≤ g1 ∧ Hid (dj.size = d.size) ∧ wr = sortWorldK encP 8 w blk 0 m dj os ∧ Hid (swr a b (n - i) i dj = swr a b n 0 dk))
  case atStart => exact ⟨0, m0, dk, rfl, by omega, by omega, HSZ, rfl, rfl⟩
  case round =>
    obtain ⟨i, m, dj, rfl, hin, hg1, HSJ, rfl, HO⟩ := hrel
    by_cases hlt : i < n
    · have hltz : (i : Int) < (n : Int) := by omega
      obtain ⟨xa, hxa⟩ : ∃ x, dj[a + i]! = x := ⟨_, rfl⟩
      obtain ⟨xb, hxb⟩ : ∃ x, dj[b + i]! = x := ⟨_, rfl⟩
      have j1 : (a : Int) + (i : Int) < (d.size : Int) := by omega
      have j2 : (b : Int) + (i : Int) < (d.size : Int) := by omega
      have p1 : (0 : Int) ≤ (a : Int) + (i : Int) := by omega
      have p2 : (0 : Int) ≤ (b : Int) + (i : Int) := by omega
      have e1 : ((a : Int) + (i : Int)).toNat = a + i := by omega
      have e2 : ((b : Int) + (i : Int)).toNat = b + i := by omega
      have hHd := holdsK_sortWorldK_c encP 8 w blk 0 d dj m os HH.out hblk HSJ.out
      have HSW : Hid (((sortWorldK encP 8 w blk 0 m dj os).drew.setCells blk ((a + i) * 8) (encP xb)).setCells blk ((b + i) * 8) (encP xa) = sortWorldK encP 8 w blk 0 (m + 1) (swp dj (a + i) (b + i)) os) := by
        show _ = _
        rw [← hxa, ← hxb]
        have := sortWorldK_swp_c encP 8 w blk 0 encP_len m dj os hblk (a + i) (b + i) (by rw [HSJ.out]; omega) (by rw [HSJ.out]; omega)
        simpa using this
      generalize hwq : sortWorldK encP 8 w blk 0 m dj os = wq at hHd HSW ⊢
      obtain ⟨⟨la0, la1, la2, la3, la4, la5, la6, la7⟩, fa0, fa1, fa2, fa3, fa4, fa5, fa6, fa7⟩ := cells8 hHd (i := a + i) (by rw [HSJ.out]; omega) hxa
      obtain ⟨⟨lb0, lb1, lb2, lb3, lb4, lb5, lb6, lb7⟩, fb0, fb1, fb2, fb3, fb4, fb5, fb6, fb7⟩ := cells8 hHd (i := b + i) (by rw [HSJ.out]; omega) hxb
      have hsd := HSJ.out
      obtain ⟨w0, w1, w2, w3, w4, w5, w6, w7, ⟨lb0', lb1', lb2', lb3', lb4', lb5', lb6', lb7'⟩, fb0', fb1', fb2', fb3', fb4', fb5', fb6', fb7'⟩ := after8 hHd ((a + i) * 8) xb (by rw [size_flatK]; omega) ((b + i) * 8) (by rw [size_flatK]; omega)
      clear hHd hsd
      have HWQ : Hid _ := hwq
      clear hwq
      have HXA : Hid _ := hxa
      have HXB : Hid _ := hxb
      clear hxa hxb
      go_wp2
      go_big_region
      all_goals go_wp2
      go_roundg (n - (i + 1))
      case measure => omega
      case rel => exact ⟨i + 1, m + 1, swp dj (a + i) (b + i), by go_num, by omega, by omega, (by show _ = _; rw [size_swp]; exact HSJ.out), (set16 _ _ _ _ _ _).trans HSW.out, (by show _ = _; rw [← HO.out, show n - i = (n - (i + 1)) + 1 by omega, swr])⟩
    · have hltz : ¬ (i : Int) < (n : Int) := by omega
      obtain rfl : i = n := by omega
      go_wp2
      go_end0
      exact ⟨rfl, m, by rw [← HO.out, Nat.sub_self, swr]⟩
end
end Go.Proofs.Ytppfkbigeknedaa.Q
