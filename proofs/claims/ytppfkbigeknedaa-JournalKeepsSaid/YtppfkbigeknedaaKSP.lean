/- the journals together, merged -/
import Derived.Test.YtppfkbigeknedaaKCodeJ
import Derived.Test.YtppfkbigeknedaaKLawB
namespace Go.Proofs.Ytppfkbigeknedaa.Q
open Go.RowKit Go.Proofs.YtppfkbigeknedaaW.PrintWords Go.Proofs.YtppfkbigeknedaaW.PrintLast Go.Proofs.YtppfkbigeknedaaW.PrintMore
set_option linter.unusedVariables false
set_option linter.unusedSimpArgs false
set_option maxRecDepth 100000
theorem kor_kept {w0 : World} {base : Nat} {W W1 : World} {es : List S60} {v : Value} {S ok : Nat → Prop} (h : (kor k60 w0).R 60 W base ok v es) (hk : Kept W W1 S) (hS : ∀ k, S k → ok k → ∀ cells q, W.heap[k]? = some (.cells cells q (0, 0)) → q ≠ 60 ∧ q ≠ 130) : (kor k60 w0).R 60 W1 base (fun k => ok k ∧ k < W.heap.size) v es := by
  refine Kd.R_mono (Kd.R_kept (Kd.R_bound h) hk ?_) (fun k hk => ⟨hk.1, hk.2.2.1⟩)
  rintro k ⟨ho, _, _, q, hq, cells, hc⟩ hs
  have := hS k hs ho cells q hc
  change q ∈ 60 :: k60.E at hq
  simp only [k60, Kd.iso, Kd.pair, Kd.int, Kd.scalar, Kd.slice, k130, List.nil_append, List.append_nil, List.mem_cons, List.not_mem_nil, or_false] at hq
  rcases hq with rfl | rfl
  · exact this.1 rfl
  · exact this.2 rfl
def Sys (w0 : World) (gd gj gm : Nat) (W : World) (xs : List Int) (room : Int) (down : Bool) (es : List S60) (vd vj vm : Value) : Prop :=
  IsD w0.heap.size gd W xs room down vd ∧ IsJ w0.heap.size gj W gd es vj ∧ IsM w0 w0.heap.size gm W (strOfNums xs) room down es (fun k => some k ≠ vj.ownBlock) vm ∧ Below w0.heap.size w0 W
theorem Sys.below {w0 : World} {gd gj gm : Nat} {W W1 : World} {xs : List Int} {room : Int} {down : Bool} {es : List S60} {vd vj vm : Value} (h : Sys w0 gd gj gm W xs room down es vd vj vm) (hb : Below W.heap.size W W1) : Sys w0 gd gj gm W1 xs room down es vd vj vm :=
  ⟨h.1.below2 hb, ⟨blk_below h.2.1.1 hb, h.2.1.2.1, Kd.R_below h.2.1.2.2 hb⟩, h.2.2.1.below hb, h.2.2.2.trans (hb.mono h.2.2.2.size)⟩
theorem blk_ty {W : World} {g : Nat} {cells cells' : Array Value} {q q' : Nat} (h : W.heap[g]? = some (.cells cells q (0, 0))) (h' : W.heap[g]? = some (.cells cells' q' (0, 0))) : q = q' := by
  rw [h] at h'
  injection h' with h'
  injection h' with _ h'
theorem Sys.mid {w0 : World} {gd gj gm : Nat} {W w1 : World} {xs xs' : List Int} {room : Int} {down down' : Bool} {es es' : List S60} {vd vj vm : Value} {r : Option Int} {e : Ending}
    (h : Sys w0 gd gj gm W xs room down es vd vj vm) (ha : AppPost w0.heap.size gd gj W room down' r xs' es' vd vj e w1) :
    ∃ vd' vj', e = .returned (errW r) ∧ IsD w0.heap.size gd w1 xs' room down' vd' ∧ IsJ w0.heap.size gj w1 gd es' vj' ∧ IsM w0 w0.heap.size gm w1 (strOfNums xs) room down es (fun k => some k ≠ vj'.ownBlock) vm ∧ Below w0.heap.size w0 w1 ∧ Below w0.heap.size W w1 ∧ (∀ (g : Nat) (cells : Array Value), W.heap[g]? = some (.cells cells 83 (0, 0)) → w1.heap[g]? = some (.cells cells 83 (0, 0))) := by
  obtain ⟨vd', vj', he, hd, hj, hb, hk, hv⟩ := ha
  obtain ⟨h1, h2, h3, h4⟩ := h
  have hty : ∀ k, JW gd gj vd vj k → some k ≠ vj.ownBlock → ∀ cells q, W.heap[k]? = some (.cells cells q (0, 0)) → q ≠ 60 ∧ q ≠ 130 ∧ q ≠ 81 ∧ q ≠ 83 := by
    rintro k (hk | rfl | hk) hne cells q hc
    · rcases hk with rfl | hk
      · have := blk_ty hc h1.1; subst this; decide
      · obtain ⟨inner, ho⟩ := Kd.R_own h1.2.2.1
        obtain ⟨cells', hc'⟩ := own_typed ho k hk
        have := blk_ty hc hc'; subst this; decide
    · have := blk_ty hc h2.1; subst this; decide
    · exact absurd hk.symm hne
  have hgv : some gm ≠ vj.ownBlock := Kd.R_ne h2.2.2 h3.1 (by decide)
  refine ⟨vd', vj', he, hd, hj, ⟨blk_kept h3.1 hk (fun hs => (hty gm hs hgv _ _ h3.1).2.2.1 rfl), h3.2.1, ?_⟩, h4.trans hb, hb, fun g cells hg => blk_kept hg hk (fun hs => (hty g hs (Kd.R_ne h2.2.2 hg (by decide)) _ _ hg).2.2.2 rfl)⟩
  refine Kd.R_mono (kor_kept h3.2.2 hk (fun k hs ho cells q hc => ⟨(hty k hs ho cells q hc).1, (hty k hs ho cells q hc).2.1⟩)) ?_
  rintro k ⟨ho, hlt⟩
  rcases hv with hv | ⟨b, hb1, hb2⟩
  · rw [hv]; exact ho
  · rw [hb1]; intro hx; injection hx with hx; omega
theorem Sys.opened {w0 : World} {gd gj gm : Nat} {W w1 : World} {xs ys : List Int} {room : Int} {down : Bool} {B : ByteArray} {es es' : List S60} {ok : Nat → Prop} {vd vd' vj vm : Value} 
    (hd : IsD w0.heap.size gd W xs room down vd) (hm : IsM w0 w0.heap.size gm W B room down es ok vm) (h0 : Below w0.heap.size w0 W)
    (hd' : IsD w0.heap.size gd w1 ys room false vd') (hj : IsJ W.heap.size gj w1 gd es' vj) (hb : Below w0.heap.size W w1) (hk : Kept W w1 (fun k => k = gd)) :
    IsJ w0.heap.size gj w1 gd es' vj ∧ IsM w0 w0.heap.size gm w1 B room down es ok vm ∧ Below w0.heap.size w0 w1 := by
  refine ⟨⟨hj.1, Nat.le_trans h0.size hj.2.1, Kd.R_lower hj.2.2 h0.size⟩, ⟨blk_kept hm.1 hk ?_, hm.2.1, Kd.R_mono (kor_kept hm.2.2 hk ?_) (fun k hk => hk.1)⟩, h0.trans hb⟩
  · rintro rfl
    have := blk_ty hd.1 hm.1
    revert this; decide
  · rintro k rfl ho cells q hc
    have := blk_ty hc hd.1; subst this; decide
end Go.Proofs.Ytppfkbigeknedaa.Q
namespace Go.Proofs.Ytppfkbigeknedaa.Q
open Go.RowKit Go.Proofs.YtppfkbigeknedaaW.PrintWords
set_option linter.unusedVariables false
set_option linter.unusedSimpArgs false
theorem puts_bytes {l : List Int} (h : ∀ x ∈ l, inU x) : Bytes (puts l) := by
  intro y hy
  obtain ⟨x, hx, hy⟩ := List.mem_flatMap.1 hy
  have := h x hx
  unfold inU at this
  exact vnt_byte 9 x this.1 (by have := pow9; omega) y hy
theorem entryL_bytes (a b : Int) (m : List S130) : Bytes (entryL a b m) := by
  unfold entryL
  split
  · split
    · next h =>
      intro y hy
      rcases List.mem_cons.1 hy with rfl | hy
      · unfold isByte; omega
      · exact puts_bytes (movesNums_in h.1 h.2) y hy
    · intro y hy; cases hy
  · split
    · next h =>
      intro y hy
      simp only [List.mem_cons, List.not_mem_nil, or_false] at hy
      unfold isByte
      rcases hy with rfl | rfl <;> omega
    · intro y hy; cases hy
theorem recordL_bytes (a b : Int) (m : List S130) : Bytes (recordL a b m) := by
  intro y hy
  rcases List.mem_append.1 hy with hy | hy
  · refine puts_bytes (l := [((entryL a b m).length : Int)]) ?_ y hy
    intro x hx
    have := entryL_len a b m
    simp only [List.mem_singleton] at hx
    unfold inU; omega
  · exact entryL_bytes a b m y hy
theorem recordL_pos (a b : Int) (m : List S130) : 1 ≤ (recordL a b m).length := by
  have := List.length_pos_iff.2 (puts_ne ((entryL a b m).length : Int) [])
  simp only [recordL, List.length_append]
  omega
theorem Bytes.append {x y : List Int} (hx : Bytes x) (hy : Bytes y) : Bytes (x ++ y) := fun z hz => (List.mem_append.1 hz).elim (hx z) (hy z)
end Go.Proofs.Ytppfkbigeknedaa.Q
