/- dunnageref14.down and dunnageref14.Tighter, by hand. -/
import Derived.Test.YtppfkbigeknedaaUQ0
namespace Go.Proofs.Ytppfkbigeknedaa.Q
open Go.Shelf Go.RowKit Go.Lib Go.Proofs.YtppfkbigeknedaaW.PrintWords Go.Proofs.YtppfkbigeknedaaW.PrintLast Go.Proofs.YtppfkbigeknedaaW.PrintMore
set_option linter.unusedVariables false
set_option linter.unusedSimpArgs false
set_option maxRecDepth 100000
attribute [local go_sem] eqe_ii eqe_nn eqe_ni eqe_nni
def Vec4 (W : World) (g : Nat) (r1 r2 r3 r4 : Int) : Prop :=
  (W.cell? ⟨g, 0, none⟩ = some (.int .u64 r1) ∧ W.cell? ⟨g, 1, none⟩ = some (.int .u64 r2) ∧ W.cell? ⟨g, 2, none⟩ = some (.int .u64 r3) ∧ W.cell? ⟨g, 3, none⟩ = some (.int .u64 r4)) ∧ W.frozen? ⟨g, 0, none⟩ = false ∧ W.frozen? ⟨g, 1, none⟩ = false ∧ W.frozen? ⟨g, 2, none⟩ = false ∧ W.frozen? ⟨g, 3, none⟩ = false
def cs (a b : Int) : Int × Int := if a < b then (b, a) else (a, b)
def Two (W : World) (g : Nat) (r1 r2 r3 r4 : Int) : Prop := Vec4 W g r1 r2 r3 r4 ∧ Vec4 W (g + 1) 0 0 0 0
theorem Two.drew {W : World} {g : Nat} {r1 r2 r3 r4 : Int} (h : Two W g r1 r2 r3 r4) : Two W.drew g r1 r2 r3 r4 := h
def downF (a0 a1 a2 a3 : Int) : Int × Int × Int × Int :=
  let c0 := cs a0 a1
  let c1 := cs c0.1 a2
  let c2 := cs c1.1 a3
  let c3 := cs c0.2 c1.2
  let c4 := cs c3.1 c2.2
  let c5 := cs c3.2 c4.2
  (c2.1, c4.1, c5.1, c5.2)
theorem Vec4.block {W W1 : World} {g : Nat} {r1 r2 r3 r4 : Int} (h : Vec4 W g r1 r2 r3 r4) (hb : W1.heap[g]? = W.heap[g]?) : Vec4 W1 g r1 r2 r3 r4 := by
  have c : ∀ j, W1.cell? ⟨g, j, none⟩ = W.cell? ⟨g, j, none⟩ := fun j => World.cell?_of_block (w := W) hb
  have f : ∀ j, W1.frozen? ⟨g, j, none⟩ = W.frozen? ⟨g, j, none⟩ := fun j => World.frozen?_of_block (w := W) hb
  unfold Vec4
  rw [c, c, c, c, f, f, f, f]
  exact h
def lexF (x0 x1 x2 x3 y0 y1 y2 y3 : Int) : Bool :=
  if x0 ≠ y0 then decide (x0 < y0) else if x1 ≠ y1 then decide (x1 < y1) else if x2 ≠ y2 then decide (x2 < y2) else if x3 ≠ y3 then decide (x3 < y3) else false
def tighterF (a0 a1 a2 a3 b0 b1 b2 b3 : Int) : Bool :=
  lexF (downF a0 a1 a2 a3).1 (downF a0 a1 a2 a3).2.1 (downF a0 a1 a2 a3).2.2.1 (downF a0 a1 a2 a3).2.2.2 (downF b0 b1 b2 b3).1 (downF b0 b1 b2 b3).2.1 (downF b0 b1 b2 b3).2.2.1 (downF b0 b1 b2 b3).2.2.2
end Go.Proofs.Ytppfkbigeknedaa.Q
