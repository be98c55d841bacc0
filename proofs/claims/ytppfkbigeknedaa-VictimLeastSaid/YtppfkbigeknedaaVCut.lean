/- slices.Delete of whole numbers, by the shelf's law: a row of the caller's own. -/
import Derived.Test.YtppfkbigeknedaaVQ0
import Derived.Shelf.Slices.Delete
namespace Go.Proofs.Ytppfkbigeknedaa.Q
open Go.Shelf Go.RowKit Go.Lib Go.Proofs.YtppfkbigeknedaaW.PrintWords Go.Proofs.YtppfkbigeknedaaW.PrintLast Go.Proofs.YtppfkbigeknedaaW.PrintMore
open Go.Sort hiding Below
set_option linter.unusedVariables false
set_option linter.unusedSimpArgs false
set_option maxRecDepth 100000
attribute [local go_sem] eqe_ii eqe_nn eqe_ni eqe_nni
def cutRen : Ren := ⟨fun x => if x = 23 then 107 else x, fun x => if x = 22 then 71 else x, fun x => x⟩
theorem cutL : Lays2.n23 Try.prog cutRen := {
  mixed := by kernel_rfl
  f23 := Try.func107.trans (by kernel_rfl)
  t0 := by kernel_rfl
  a0 := fun w => by kernel_rfl
  z0 := fun w => by kernel_rfl
  v0 := fun w => by kernel_rfl
  t3 := by kernel_rfl
  a3 := fun w => by kernel_rfl
  z3 := fun w => by kernel_rfl
  v3 := fun w => by kernel_rfl
  t4 := by kernel_rfl
  a4 := fun w => by kernel_rfl
  z4 := fun w => by kernel_rfl
  v4 := fun w => by kernel_rfl
  t22 := by kernel_rfl
  a22 := fun w => by kernel_rfl
  z22 := fun w => by kernel_rfl
  v22 := fun w => by kernel_rfl
  i3 := by kernel_rfl }
set_option maxHeartbeats 4000000 in
theorem cut_nil (c : Nat) (w : World) : Calls Try.prog 107 #[.slice none 0 c, .int .i64 0, .int .i64 0] w fun e w' => e = .returned (.slice none 0 c) ∧ w' = w := by
  go_enter Try.func107, Try.ntmps107
  go_wp2
  go_ret
  exact ⟨rfl, rfl⟩
theorem putRow_block (w : World) (blk : Nat) (q : Nat) (d : Array Int) (cur : Array Value) (t : TypeId) (fr : Nat × Nat) (hb : w.heap[blk]? = some (.cells cur t fr)) (hs : d.size ≤ cur.size) :
    ∃ cur', (putRow (Value.int .i64) (Sort.ahead w q) blk 0 d).heap[blk]? = some (.cells cur' t fr) ∧ cur'.size = cur.size := by
  refine ⟨putCells (Value.int .i64) 0 d cur, ?_, ?_⟩
  · show ((Sort.ahead w q).heap.modify blk _)[blk]? = _
    rw [Array.getElem?_modify, if_pos rfl]
    show Option.map _ (w.heap[blk]?) = _
    rw [hb]; rfl
  · unfold putCells; simp
def cutF (l0 : List (Int)) (a1 : Int) (a2 : Int) : Option (List (Int)) := if 0 ≤ a1 then if a1 ≤ a2 then if a2 ≤ (l0.length : Int) then some (l0.take a1.toNat ++ l0.drop a2.toNat) else none else none else none
theorem below_putRowI {B : Nat} (W : World) (blk n : Nat) (d : Array Int) (hB : B ≤ blk) : Below B W (putRow (Value.int .i64) (Sort.ahead W n) blk 0 d) :=
  ⟨rfl, rfl, rfl, by rw [size_putRow]; exact Nat.le_refl _, fun k hk => by
    show ((Sort.ahead W n).heap.modify blk _)[k]? = _
    rw [Array.getElem?_modify, if_neg (by omega)]; rfl⟩
theorem cut_calls (P0_ : Nat → Prop) (u9000_ : Value) (l0 : List (Int)) (a1 : Int) (a2 : Int) (r : List (Int)) (w0 w : World) (hB : Below w0.heap.size w0 w) (ho0 : Kd.R (Kd.int .i64) 3 w w0.heap.size P0_ u9000_ l0) (h : cutF l0 a1 a2 = some r) :
    Calls Try.prog 107 #[u9000_, .int .i64 a1, .int .i64 a2] w fun e w' => ∃ v0_ : Value, e = .returned (v0_) ∧ Kd.R (Kd.int .i64) 3 w' w0.heap.size (fun k_ => (P0_ k_ ∨ w.heap.size ≤ k_)) v0_ r ∧ Below w0.heap.size w0 w' ∧ Kept w w' (fun k_ => P0_ k_) := by
  unfold cutF at h
  by_cases h1 : 0 ≤ a1
  case neg => rw [if_neg h1] at h; cases h
  rw [if_pos h1] at h
  by_cases h2 : a1 ≤ a2
  case neg => rw [if_neg h2] at h; cases h
  rw [if_pos h2] at h
  by_cases h3 : a2 ≤ (l0.length : Int)
  case neg => rw [if_neg h3] at h; cases h
  rw [if_pos h3] at h
  obtain rfl := Option.some.inj h
  clear h
  obtain ⟨i, rfl⟩ := Int.eq_ofNat_of_zero_le h1
  obtain ⟨j, rfl⟩ := Int.eq_ofNat_of_zero_le (Int.le_trans h1 h2)
  simp only [Int.toNat_natCast]
  have hok := ho0.1
  obtain ⟨A, c, hv, hlc, hC⟩ := Kd.R_reads ho0
  obtain ⟨_, inner, ho, hr⟩ := ho0
  obtain ⟨hl, hf⟩ := ho
  rcases hf with ⟨rfl, h0⟩ | ⟨g, cap, cur, rfl, hg, hh, hc, hm, hcs, ht⟩
  · have hl0 : l0 = [] := List.eq_nil_of_length_eq_zero h0
    subst hl0
    obtain rfl : i = 0 := by simp at h3; omega
    obtain rfl : j = 0 := by simp at h3; omega
    refine (cut_nil 0 w).mono ?_
    rintro e w' ⟨rfl, rfl⟩
    exact ⟨_, rfl, Kd.R_nil _ _ _ _ _, hB, Kept.refl _ _⟩
  · obtain rfl : A = some ⟨g, 0, none⟩ := by injection hv with h _ _; exact h.symm
    clear hv hlc
    have hcap : cap ≤ 9223372036854775807 := by unfold maxLen at hm; omega
    have hHo : Holds (Value.int .i64) w g 0 l0.toArray := by
      intro k hk
      have hk' : k < l0.length := by simpa using hk
      obtain ⟨ad, e, hcell⟩ := hC.2.2 (by omega)
      obtain rfl : (⟨g, 0, none⟩ : Addr) = ad := by injection e
      obtain ⟨cs, hcl, hK, hci⟩ := hcell k l0[k] (List.getElem?_eq_getElem hk')
      have hcs : cs = [.int .i64 l0[k]] := hK
      have hu := hci 0 (.int .i64 l0[k]) (by rw [hcs]; rfl)
      have e1 : (⟨g, 0, none⟩ : Addr).add (k * (Kd.int .i64).sz + 0) = ⟨g, 0 + k, none⟩ := by
        show (⟨g, 0, none⟩ : Addr).add (k * 1 + 0) = _
        rw [Nat.mul_one, Nat.add_zero, Addr.add_lit]
      rw [e1] at hu
      refine ⟨?_, blk_frozen hh _⟩
      rw [hu, getElem!_pos _ k (by simpa using hk)]
      simp
    have hd := Any.slices_Delete_int_arr cutL g 0 cap i j l0.toArray w hHo (by simpa using hc) hcap (by omega) (by simpa using h3)
    refine Calls.mono (show Calls Try.prog 107 #[.slice (some ⟨g, 0, none⟩) l0.length cap, .int .i64 i, .int .i64 j] w _ from by simp at hd; exact hd) ?_
    rintro e w' ⟨rfl, q, rfl⟩
    have hlen : (l0.take i ++ l0.drop j).length = l0.length - (j - i) := by simp; omega
    have hds : (l0.take i ++ (l0.drop j ++ List.replicate (j - i) 0)).toArray.size = l0.toArray.size := by simp; omega
    obtain ⟨cur', hh', hcs'⟩ := putRow_block w g q (l0.take i ++ (l0.drop j ++ List.replicate (j - i) 0)).toArray cur 3 (0, 0) hh (by rw [hds, hcs]; simp; show _ ≤ cap * 1; omega)
    have hcell : ∀ k, k < (l0.take i ++ l0.drop j).length → cur'[k]? = ((l0.take i ++ l0.drop j)[k]?).map (Value.int .i64) := by
      intro k hk
      have hks : k < (l0.take i ++ (l0.drop j ++ List.replicate (j - i) 0)).toArray.size := by rw [hds]; simp; omega
      have := cell?_putRow (Value.int .i64) (Sort.ahead w q) g 0 l0.toArray (l0.take i ++ (l0.drop j ++ List.replicate (j - i) 0)).toArray (holds_ahead _ w q g 0 _ hHo) hds k hks
      rw [Nat.zero_add, (blk_cell hh' k)] at this
      have e2 : (l0.take i ++ (l0.drop j ++ List.replicate (j - i) 0))[k]? = (l0.take i ++ l0.drop j)[k]? := by rw [← List.append_assoc, List.getElem?_append_left hk]
      have hks2 : k < (l0.take i ++ (l0.drop j ++ List.replicate (j - i) 0)).length := hks
      rw [List.getElem?_eq_getElem hk, List.getElem?_eq_getElem hks2] at e2
      rw [this, getElem!_pos _ k hks, List.getElem?_eq_getElem hk]
      have e3 := Option.some.inj e2
      show some (Value.int .i64 (l0.take i ++ (l0.drop j ++ List.replicate (j - i) 0))[k]) = _
      rw [e3]; rfl
    have hkeep : Below w0.heap.size w0 (putRow (Value.int .i64) (Sort.ahead w q) g 0 (l0.take i ++ (l0.drop j ++ List.replicate (j - i) 0)).toArray) := hB.trans (below_putRowI w g q _ hg)
    refine ⟨_, rfl, ⟨?_, (l0.take i ++ l0.drop j).map (Value.int .i64), ⟨?_, Or.inr ⟨g, cap, cur', ?_, hg, hh', ?_, hm, by rw [hcs', hcs], ?_⟩⟩, ?_⟩, hkeep, ?_, ?_⟩
    · intro k hk
      exact Or.inl (hok k hk)
    · show _ = _ * 1; simp
    · rw [hlen]
    · omega
    · apply List.ext_getElem?
      intro k
      rw [List.getElem?_map]
      by_cases hk : k < (l0.take i ++ l0.drop j).length
      · rw [List.getElem?_take_of_lt (by show k < (l0.take i ++ l0.drop j).length * 1; omega), Array.getElem?_toList]
        exact hcell k hk
      · rw [List.getElem?_eq_none (by rw [List.length_take]; show min ((l0.take i ++ l0.drop j).length * 1) _ ≤ k; omega), List.getElem?_eq_none (by omega)]
        rfl
    · refine ⟨by rw [List.length_map]; show _ = _ * 1; omega, fun k p hk => ?_⟩
      have hk2 : k < (l0.take i ++ l0.drop j).length := (List.getElem?_eq_some_iff.1 hk).1
      show List.take 1 (List.drop (k * 1) _) = [Value.int .i64 p]
      rw [Nat.mul_one, List.drop_eq_getElem_cons (by simpa using hk2)]
      simp only [List.take_succ_cons, List.take_zero, List.getElem_map]
      rw [(List.getElem?_eq_some_iff.1 hk).2]
    · rw [size_putRow]; exact Nat.le_refl _
    · intro k hk hn
      have hne : k ≠ g := fun e => hn (e ▸ hok g rfl)
      show ((Sort.ahead w q).heap.modify g _)[k]? = _
      rw [Array.getElem?_modify, if_neg (by omega)]; rfl
end Go.Proofs.Ytppfkbigeknedaa.Q
