/- The walks of dunnagelaw21, by hand. -/
import Derived.Test.YtppfkbigeknedaaDisk
import Derived.Lib.SlBytesConst
namespace Go.Proofs.Ytppfkbigeknedaa.Q
open Go.RowKit Go.Proofs.YtppfkbigeknedaaW.PrintWords Go.Proofs.YtppfkbigeknedaaW.PrintLast Go.Proofs.YtppfkbigeknedaaW.PrintMore
set_option linter.unusedVariables false
set_option linter.unusedSimpArgs false
set_option maxRecDepth 100000
attribute [local go_sem] eqe_ii eqe_nn eqe_ni eqe_nni
theorem IsD.below {base g : Nat} {W W1 : World} {xs : List Int} {room : Int} {down : Bool} {v : Value} (h : IsD base g W xs room down v) (hb : Below W.heap.size W W1) : IsD base g W1 xs room down v :=
  ⟨blk_below h.1 hb, h.2.1, Kd.R_below h.2.2.1 hb, h.2.2.2⟩
theorem cellM (W : World) (cs : Array Value) (t : TypeId) (fr : Nat × Nat) (j : Nat) : (W.alloc (.cells cs t fr)).cell? ⟨W.heap.size, j, none⟩ = cs[j]? := by
  have : (W.alloc (.cells cs t fr)).heap[W.heap.size]? = some (.cells cs t fr) := by
    show (W.heap.push (.cells cs t fr))[W.heap.size]? = _
    simp
  unfold World.cell?
  rw [this]
  rfl
/-- A literal of two bytes, marked: it reads as its two bytes. -/
theorem C_lit2 (W : World) (x y : Int) (fr : Nat × Nat) : Kd.C (Kd.int .u8) (W.alloc (.cells #[.int .u8 x, .int .u8 y] 5 fr)) (some ⟨W.heap.size, 0, none⟩) 2 [x, y] := by
  refine ⟨rfl, by omega, fun _ => ⟨_, rfl, fun j p hp => ⟨[.int .u8 p], rfl, rfl, fun i u hu => ?_⟩⟩⟩
  have hi : i = 0 := by have := (List.getElem?_eq_some_iff.1 hu).1; simp at this; omega
  subst hi
  simp at hu
  subst hu
  have ea : (⟨W.heap.size, 0, none⟩ : Addr).add (j * (Kd.int .u8).sz + 0) = ⟨W.heap.size, j, none⟩ := by
    show (⟨W.heap.size, 0, none⟩ : Addr).add (j * 1 + 0) = _
    rw [Nat.mul_one, Nat.add_zero, add_at, Nat.zero_add]
  rw [ea, cellM]
  match j, hp with
  | 0, hp => exact (by simpa using hp)
  | 1, hp => exact (by simpa using hp)
theorem dApp1 : dApp [] [97, 98] 3 false = (none, [97, 98]) := by decide
theorem dApp2 : dApp [97, 98] [99, 100] 3 false = (some 6, [97, 98]) := by decide
set_option maxHeartbeats 8000000 in
theorem law21_up (w : World) : Calls Try.prog 34 #[] w fun e w' => e = .returned (.bool true) ∧ Below w.heap.size w w' := by
  have hn := fun W => disk_new 3 W (by omega) (by omega)
  have hcv : ∀ (W : World) (a b : Value), (convert 46 46 (.slice (some ⟨W.heap.size, 0, none⟩) 2 2)).run Try.prog (W.alloc (.cells #[a, b] 5)) = .ok (.slice (some ⟨W.heap.size, 0, none⟩) 2 2) (W.alloc (.cells #[a, b] 5 (2, 3))) := fun W a b => Go.Lib.run_convert_bytes_const W 46 5 #[a, b] 2 2 Try.underlying46 (by kernel_rfl)
  go_enter Try.func34, Try.ntmps34
  go_wp2_with (first
    | (go_at_call 35; refine (hn _).mono ?_; rintro e w1 ⟨g, rfl, hd, hb⟩; have HD := Aside0.mk hd; have HB := Aside0.mk hb; clear hd hb hn)
    | (go_at_call 36; first
        | (have hc := disk_append (c := 2) (HD.out.below (below_alloc (Below.refl _ _) _)) (C_lit2 _ 97 98 (2, 3)); simp only [dApp1, errW_none] at hc; refine hc.mono ?_; clear hc; rintro e w3 ⟨v3, rfl, hd, hb, hk, ho⟩; have HD3 := Aside0.mk hd; have HB3 := Aside0.mk hb; clear hd hb hk ho HD)
        | (have hc := disk_append (c := 2) (HD3.out.below (below_alloc (Below.refl _ _) _)) (C_lit2 _ 99 100 (2, 3)); simp only [dApp2, errW_some] at hc; refine hc.mono ?_; clear hc; rintro e w5 ⟨v5, rfl, hd, hb, hk, ho⟩; have HD5 := Aside0.mk hd; have HB5 := Aside0.mk hb; clear hd hb hk ho HD3))
    | (go_at_call 37; refine (disk_bytes HD5.out).mono ?_; rintro e w6 ⟨v6, rfl, hr, hb⟩; obtain ⟨A6, c6, rfl⟩ := Kd.R_slice hr; have HR6 := Aside0.mk hr; have HB6 := Aside0.mk hb; have hs7 : (convert 46 9 (.slice A6 2 c6)).run Try.prog w6 = .ok (.string { data := #[97, 98] }) w6 := Kd.C_string (P := Try.prog) (src := 46) (dst := 9) (e := 5) (c := c6) Try.underlying46 (by kernel_rfl) (by kernel_rfl) (Kd.R_reads' hr).2.2; clear hr hb)
    | (go_at_call 80; refine (disk_room (HD5.out.below HB6.out)).mono ?_; rintro e w7 ⟨rfl, n7, rfl⟩))
  go_ret
  have b2 := (below_alloc HB.out (.cells #[.int .u8 97, .int .u8 98] 5 (2, 3))).trans HB3.out
  have b3 := (below_alloc b2 (.cells #[.int .u8 99, .int .u8 100] 5 (2, 3))).trans HB5.out
  exact ⟨rfl, pw_below_drewN (below_then b3 b3.size HB6.out) _⟩
end Go.Proofs.Ytppfkbigeknedaa.Q
