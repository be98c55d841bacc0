/- dunnageref22.Journal: Open and Append, by hand. -/
import Derived.Test.YtppfkbigeknedaaVTE
import Derived.Test.YtppfkbigeknedaaVQdunnageref22Read
import Derived.Test.YtppfkbigeknedaaVQdunnageref22Record
namespace Go.Proofs.Ytppfkbigeknedaa.Q
open Go.RowKit Go.Proofs.YtppfkbigeknedaaW.PrintWords Go.Proofs.YtppfkbigeknedaaW.PrintLast Go.Proofs.YtppfkbigeknedaaW.PrintMore
set_option linter.unusedVariables false
set_option linter.unusedSimpArgs false
set_option maxRecDepth 100000
attribute [local go_sem] eqe_ii eqe_nn eqe_ni eqe_nni
def kor {α : Type} (d : Kd α) (w0 : World) : Kd α where
  sz := d.sz
  E := d.E
  K w x cs := d.K w x cs ∨ d.K w0 x cs
  M w base ok x cs := d.M w base ok x cs ∨ d.K w0 x cs
  K_len h := h.elim d.K_len d.K_len
  K_one h := h.elim d.K_one d.K_one
  K_below hb h := h.imp (d.K_below hb) id
  K_of_M h := h.imp d.K_of_M id
  M_mono hk h := h.imp (d.M_mono hk) id
  M_bound h := h.imp d.M_bound id
  M_move hm h := h.imp (d.M_move hm) id
  M_lower hb h := h.imp (d.M_lower hb) id
theorem kor_R {α : Type} {d : Kd α} {w0 : World} {e : Nat} {w : World} {base : Nat} {ok : Nat → Prop} {v : Value} {xs : List α} (h : d.R e w base ok v xs) : (kor d w0).R e w base ok v xs :=
  ⟨h.1, h.2.imp_ (fun _ _ hp => Or.inl hp)⟩
theorem kor_C {α : Type} {d : Kd α} {w0 w : World} {A : Option Addr} {n : Nat} {xs : List α} (h : (kor d w0).C w A n xs) (hb : Below w0.heap.size w0 w) : d.C w A n xs :=
  ReadsRow.imp_ (w1 := w) h (Below.refl _ _) (fun _ _ hp => hp.elim id (d.K_below hb))
def IsM (w0 : World) (base gm : Nat) (W : World) (B : ByteArray) (room : Int) (down : Bool) (es : List S60) (ok : Nat → Prop) (v : Value) : Prop :=
  W.heap[gm]? = some (.cells #[.string B, .int .i64 room, .bool down, v] 81 (0, 0)) ∧ base ≤ gm ∧ (kor k60 w0).R 60 W base ok v es
theorem cellM4 {W : World} {gm : Nat} {B : ByteArray} {room : Int} {down : Bool} {v : Value} (hb : W.heap[gm]? = some (.cells #[.string B, .int .i64 room, .bool down, v] 81 (0, 0))) :
    W.cell? ⟨gm, 0, none⟩ = some (.string B) ∧ W.cell? ⟨gm, 1, none⟩ = some (.int .i64 room) ∧ W.cell? ⟨gm, 2, none⟩ = some (.bool down) ∧ W.cell? ⟨gm, 3, none⟩ = some v ∧ W.frozen? ⟨gm, 0, none⟩ = false ∧ W.frozen? ⟨gm, 2, none⟩ = false ∧ W.frozen? ⟨gm, 3, none⟩ = false :=
  ⟨(blk_cell hb 0).trans rfl, (blk_cell hb 1).trans rfl, (blk_cell hb 2).trans rfl, (blk_cell hb 3).trans rfl, blk_frozen hb 0, blk_frozen hb 2, blk_frozen hb 3⟩
theorem IsM.below {w0 : World} {base gm : Nat} {W W1 : World} {B : ByteArray} {room : Int} {down : Bool} {es : List S60} {ok : Nat → Prop} {v : Value} (h : IsM w0 base gm W B room down es ok v) (hb : Below W.heap.size W W1) : IsM w0 base gm W1 B room down es ok v :=
  ⟨blk_below h.1 hb, h.2.1, Kd.R_below h.2.2 hb⟩
theorem bytesOf_strOf : ∀ (xs : List Int), Bytes xs → bytesOf (strOfNums xs) = xs := by
  intro xs hx
  simp only [bytesOf, strOfNums, List.toList_toArray, List.map_map]
  refine (List.map_congr_left (fun x h => ?_)).trans (List.map_id _)
  have := hx x h
  unfold isByte at this
  simp only [Function.comp, id]
  rw [UInt8.toNat_ofNat']
  omega
theorem strOf_take (xs : List Int) (n : Nat) (hn : n ≤ xs.length) : (strOfNums xs).extract 0 n = strOfNums (xs.take n) := by
  apply ByteArray.ext
  apply Array.toList_inj.1
  simp [strOfNums, ByteArray.data_extract, List.map_take]
theorem first_nz (b : List Int) (hb : Bytes b) : ∀ f, (readF f b).2 ≤ b.length := by
  intro f
  induction f generalizing b with
  | zero => exact Nat.zero_le _
  | succ f ih =>
    simp only [readF]
    cases hf : firstL b with
    | none => exact Nat.zero_le _
    | some p =>
      obtain ⟨e, n⟩ := p
      have h1 := first_bounds b hb e n hf
      have h2 := ih (b.drop n) (hb.drop n)
      rw [List.length_drop] at h2
      show n + _ ≤ _
      omega
set_option maxHeartbeats 1600000 in
theorem mopen_calls {w0 : World} {base gm : Nat} {W : World} {xs : List Int} {room : Int} {down : Bool} {es : List S60} {ok : Nat → Prop} {v : Value} (h : IsM w0 base gm W (strOfNums xs) room down es ok v) (hx : Bytes xs) (hl : xs.length ≤ 100000) :
    Calls Try.prog 51 #[.pointer (some ⟨gm, 0, none⟩)] W fun e w' => e = .returned (.tuple #[]) ∧ (∃ v', IsM w0 base gm w' (strOfNums (xs.take (readAll xs).2)) room false (readAll xs).1 (fun k => W.heap.size ≤ k) v') ∧ Below base W w' ∧ Kept W w' (fun k => k = gm) := by
  have H := Aside0.mk h
  obtain ⟨c0, c1, c2, c3, f0, f2, f3⟩ := cellM4 h.1
  have hbs := bytesOf_strOf xs hx
  have hsz : (strOfNums xs).size = xs.length := strOfNums_size xs
  have kb := print_bytes (P := Try.prog) 9 46 5 Try.underlying9 Try.underlying46 Try.underlying5 (strOfNums xs) W
  have hrd := bytes_reads W 5 (strOfNums xs) (by rw [hsz]; omega)
  rw [hbs, hsz] at hrd
  have hC : Kd.C (Kd.int .u8) (Go.Lib.bytesWorld W 5 (strOfNums xs)) (some ⟨W.heap.size, 0, none⟩) xs.length xs := Kd.C_of_reads (readsInt_of.1 hrd)
  rw [hsz] at kb
  have hbal : Below W.heap.size W (Go.Lib.bytesWorld W 5 (strOfNums xs)) := bytes_below (Below.refl _ _) (Nat.le_refl _) 5 _
  obtain ⟨k, hk⟩ := (rRead xs hx (by omega)).rounds
  have hcap : xs.length ≤ grownCap W xs.length 0 5 := grownCap_ge W xs.length 0 5
  have HCALL := Aside0.mk (dunnageref22_Read.calls k (some ⟨W.heap.size, 0, none⟩) (grownCap W xs.length 0 5) xs (readAll xs).1 ((readAll xs).2 : Int) _ hC hcap hk)
  have HBAL := Aside0.mk hbal
  have hn : (readAll xs).2 ≤ xs.length := first_nz xs hx xs.length
  have HST := Aside0.mk (strOf_take xs (readAll xs).2 hn)
  have HSZ := Aside0.mk hsz
  clear h hx hl hbs hrd hC hbal hk hcap
  obtain ⟨ra, hra⟩ : ∃ p, readAll xs = p := ⟨_, rfl⟩
  rw [hra] at HCALL HST hn ⊢
  obtain ⟨re, rn⟩ := ra
  simp only at HCALL HST hn ⊢
  clear hra
  go_enter Try.func51, Try.ntmps51
  go_wp2_with fail
  refine HCALL.out.mono ?_
  rintro e w2 ⟨v2, rfl, hs2, hb2⟩
  have hbal := HBAL.out
  have hb2' : Below W.heap.size W w2 := hbal.trans (hb2.mono hbal.size)
  have HB2 := Aside0.mk hb2'
  have hr2 : k60.R 60 w2 W.heap.size (fun k => W.heap.size ≤ k) v2 re := Kd.R_lower (Kd.R_mono (Kd.R_bound (Kd.S_R hs2)) (fun k hk => Nat.le_trans hbal.size hk.2.1)) hbal.size
  have HR2 := Aside0.mk (kor_R (w0 := w0) hr2)
  have HM2 := Aside0.mk (H.out.below hb2')
  obtain ⟨A2, k2, rfl⟩ := Kd.R_slice hr2
  obtain ⟨d0, d1, d2, d3, e0, e2, e3⟩ := cellM4 HM2.out.1
  have hbase : base ≤ W.heap.size := Nat.le_trans H.out.2.1 (Nat.le_of_lt (blk_lt H.out.1))
  have HBS := Aside0.mk hbase
  have hn1 : (rn : Int) ≤ (xs.length : Int) := Int.ofNat_le.2 hn
  have hsz := HSZ.out
  clear hs2 hb2 hbal hb2' hr2 c0 c1 c2 c3 f0 f2 f3 HCALL kb hbase
  go_wp2
  have HB3 := Aside0.mk (HB2.out.mono HBS.out)
  have hst := HST.out
  refine bodyPost_end (results_none rfl _ _ _) rfl ⟨rfl, ⟨.slice A2 re.length k2, ?_, HM2.out.2.1, ?_⟩, ((HB3.out.setCell HM2.out.2.1 _).setCell HM2.out.2.1 _).setCell HM2.out.2.1 _, ?_⟩
  · have b1 := blk_put (cs := #[.string (strOfNums xs), .int .i64 room, .bool down, v]) HM2.out.1 0 (.string (strOfNums (xs.take rn))) rfl
    have b2 := blk_put (cs := #[.string (strOfNums (xs.take rn)), .int .i64 room, .bool down, v]) b1 2 (.bool false) rfl
    have b3 := blk_put (cs := #[.string (strOfNums (xs.take rn)), .int .i64 room, .bool false, v]) b2 3 (.slice A2 re.length k2) rfl
    rw [hst]
    exact b3
  · exact Kd.R_mono (Kd.R_lower (Kd.R_far (Kd.R_far (Kd.R_far (Kd.R_types HR2.out HM2.out.1 (show ∀ q, q ∈ 60 :: k60.E → q ≠ 81 from by decide)) (fun k hk => hk.2) _) (fun k hk => hk.2) _) (fun k hk => hk.2) _) HBS.out) (fun k hk => hk.1)
  · exact ((Kept.setCell (p := ⟨gm, 0, none⟩) (Kept.of_below HB2.out (fun k => k = gm)) (Or.inl rfl) _).setCell (p := ⟨gm, 2, none⟩) (Or.inl rfl) _).setCell (p := ⟨gm, 3, none⟩) (Or.inl rfl) _
end Go.Proofs.Ytppfkbigeknedaa.Q
