/- dunnageref22.Journal: Open and Append, by hand. -/
import Derived.Test.YtppfkbigeknedaaKTE
import Derived.Test.YtppfkbigeknedaaKQdunnageref22Read
import Derived.Test.YtppfkbigeknedaaKQdunnageref22Record
namespace Go.Proofs.Ytppfkbigeknedaa.Q
open Go.RowKit Go.Proofs.YtppfkbigeknedaaW.PrintWords Go.Proofs.YtppfkbigeknedaaW.PrintLast Go.Proofs.YtppfkbigeknedaaW.PrintMore
set_option linter.unusedVariables false
set_option linter.unusedSimpArgs false
set_option maxRecDepth 100000
attribute [local go_sem] eqe_ii eqe_nn eqe_ni eqe_nni
def kor {α : Type} (d : Kd α) (w0 : World) : Kd α where
  sz := d.sz
  E := d.E
  K w x cs := d.K w x cs ∨ d.K w0 x cs
  M w base ok x cs := d.M w base ok x cs ∨ d.K w0 x cs
  K_len h := h.elim d.K_len d.K_len
  K_one h := h.elim d.K_one d.K_one
  K_below hb h := h.imp (d.K_below hb) id
  K_of_M h := h.imp d.K_of_M id
  M_mono hk h := h.imp (d.M_mono hk) id
  M_bound h := h.imp d.M_bound id
  M_move hm h := h.imp (d.M_move hm) id
  M_lower hb h := h.imp (d.M_lower hb) id
def IsM (w0 : World) (base gm : Nat) (W : World) (B : ByteArray) (room : Int) (down : Bool) (es : List S60) (ok : Nat → Prop) (v : Value) : Prop :=
  W.heap[gm]? = some (.cells #[.string B, .int .i64 room, .bool down, v] 81 (0, 0)) ∧ base ≤ gm ∧ (kor k60 w0).R 60 W base ok v es
theorem IsM.below {w0 : World} {base gm : Nat} {W W1 : World} {B : ByteArray} {room : Int} {down : Bool} {es : List S60} {ok : Nat → Prop} {v : Value} (h : IsM w0 base gm W B room down es ok v) (hb : Below W.heap.size W W1) : IsM w0 base gm W1 B room down es ok v :=
  ⟨blk_below h.1 hb, h.2.1, Kd.R_below h.2.2 hb⟩
end Go.Proofs.Ytppfkbigeknedaa.Q
