/- codec.writer.ints, by hand. -/
import Derived.Test.YtppfkbigeknedaaKQ0
namespace Go.Proofs.Ytppfkbigeknedaa.Q
open Go.RowKit Go.Proofs.YtppfkbigeknedaaW.PrintWords Go.Proofs.YtppfkbigeknedaaW.PrintLast Go.Proofs.YtppfkbigeknedaaW.PrintMore
set_option linter.unusedVariables false
set_option linter.unusedSimpArgs false
set_option maxRecDepth 100000
attribute [local go_sem] eqe_ii eqe_nn eqe_ni eqe_nni
def IsWr (base g : Nat) (W : World) (xs : List Int) (v : Value) : Prop :=
  W.heap[g]? = some (.cells #[v] 194 (0, 0)) ∧ base ≤ g ∧ Kd.R (Kd.int .u64) 31 W base (fun k => k ≠ g) v xs
theorem cellWr {W : World} {g : Nat} {v : Value} (hb : W.heap[g]? = some (.cells #[v] 194 (0, 0))) : W.cell? ⟨g, 0, none⟩ = some v ∧ W.frozen? ⟨g, 0, none⟩ = false :=
  ⟨(blk_cell hb 0).trans rfl, blk_frozen hb 0⟩
theorem u64_wrap_id {y : Int} (h0 : 0 ≤ y) (h1 : y < 9223372036854775808) : IntKind.u64.wrap y = y := by
  simp [IntKind.wrap, IntKind.signed, IntKind.bits]
  omega
set_option maxHeartbeats 8000000 in
theorem writer_ints {base g : Nat} {W : World} {xs ys : List Int} {v : Value} {A : Option Addr} {c b : Nat} (h : IsWr base g W xs v)
    (hy : Kd.R (Kd.int .i64) 3 W b (fun _ => True) (.slice A ys.length c) ys) (hlen : xs.length + ys.length ≤ 100000) (hpos : ∀ y ∈ ys, 0 ≤ y ∧ y < 9223372036854775808) :
    Calls Try.prog 135 #[.pointer (some ⟨g, 0, none⟩), .slice A ys.length c] W fun e w' => ∃ v', e = .returned (.tuple #[]) ∧ IsWr base g w' (xs ++ ys) v' ∧ Below base W w' := by
  have HW := Aside0.mk h
  have HY := Aside0.mk hy
  have HL := Aside0.mk hlen
  have HP := Aside0.mk hpos
  clear h hy hlen hpos
  go_enter Try.func135, Try.ntmps135
  go_wp2
  go_loopw [8] (fun v8 w' => ∃ (i : Nat) (v' : Value), v8 = .int .i64 i ∧ i ≤ ys.length ∧ Aside0 (IsWr base g w' (xs ++ ys.take i) v') ∧ Aside0 (Kd.R (Kd.int .i64) 3 w' b (fun _ => True) (.slice A ys.length c) ys) ∧ Aside0 (Below base W w')) (fun v8 _ => ys.length - (intOf v8).toNat)
  case atStart => exact ⟨0, v, rfl, by omega, by simpa using HW, HY, ⟨Below.refl _ _⟩⟩
  case round =>
    obtain ⟨i, v', rfl, hi, HW, HY, HB⟩ := hrel
    have hyl : (ys.length : Int) ≤ 100000 := by have := HL.out; omega
    by_cases hlt : (i : Int) < (ys.length : Int)
    · have hlb : decide ((i : Int) < (ys.length : Int)) = true := decide_eq_true hlt
      have hi' : i < ys.length := by omega
      obtain ⟨zs, hzs⟩ : ∃ zs, xs ++ ys.take i = zs := ⟨_, rfl⟩
      rw [hzs] at HW
      have hzl : zs.length ≤ 99999 := by rw [← hzs, List.length_append, List.length_take]; have := HL.out; omega
      have HZL := Aside0.mk hzl
      have HZS := Aside0.mk hzs
      clear hzl hzs
      obtain ⟨ad, e, hcell⟩ := Kd.at_int (Kd.R_reads' HY.out).2.2 (i : Int) (by omega) (by omega)
      cases e
      obtain ⟨c0, f0⟩ := cellWr HW.out.1
      obtain ⟨y, hyv⟩ : ∃ y, rd ys (i : Int) = y := ⟨_, rfl⟩
      rw [hyv] at hcell
      simp only [Int.toNat_natCast] at hcell
      obtain ⟨B, d, rfl⟩ := Kd.R_slice HW.out.2.2
      have hgi : ys[i]? = some y := by rw [← hyv]; simp [rd, List.getElem?_eq_getElem hi']
      have hp := HP.out y (List.mem_of_getElem? hgi)
      have hwy : IntKind.u64.wrap y = y := u64_wrap_id hp.1 hp.2
      have HWY := Aside0.mk hwy
      have hlt2 := blk_lt HW.out.1
      have HLT := Aside0.mk hlt2
      clear hwy hp hlt2 hyv
      go_wp2_with (first | ((with_reducible refine gate_builtin (b := .append) (xs := #[.tmp 16, .tmp 19]) rfl ?_); at_builtin; refine Kd.R_append (Kd.int .u64) (w0 := wr) base rfl (.tmp 16) (.tmp 19) 112 31 (.int .u64 0) 8 rfl Try.underlying112 info31 rfl (by decide) (by omega) (.slice B zs.length d) zs (IntKind.u64.wrap y) [.int .u64 (IntKind.u64.wrap y)] (fun k => k ≠ g) (fun _ => False) rfl rfl ?aP (fun _ hk => hk.elim) ?aF ?aO ?aB ?aS ?aL ?_; (case aP => exact rfl); (case aB => exact Below.refl _ _); (case aF => intro k hk e; subst e; exact absurd HLT.out (Nat.not_lt.2 hk)); (case aO => exact HW.out.2.2); (case aS => exact Nat.le_trans HW.out.2.1 (Nat.le_of_lt HLT.out)); (case aL => have := HZL.out; omega); intro v1 w1 ho hb hg hat; obtain ⟨A1, d1, rfl⟩ := Kd.R_slice ho; have hb1 := blk_grown HW.out.1 hg (fun e => HW.out.2.2.1 g e.symm rfl); have e0 := (cellWr hb1).1; have g0 := blk_frozen hb1 0; have HB1 := Aside0.mk hb1; have HO := Aside0.mk ho; have HBW := Aside0.mk hb; have HGW := Aside0.mk hg; clear ho hb hg hat hb1 c0 f0))
      go_roundw
      case measure => simp [intOf]; omega
      case rel =>
        have el : xs ++ ys.take (i + 1) = zs ++ [IntKind.u64.wrap y] := by rw [HWY.out, ← HZS.out, List.append_assoc, List.take_add_one, hgi]; rfl
        refine ⟨i + 1, .slice A1 (zs.length + 1) d1, by go_num, by omega, ⟨?_⟩, ⟨Kd.R_set (Kd.R_over HY.out HW.out.2.2 (by decide) HGW.out) HB1.out (by decide) 0 _⟩, ⟨(HB.out.trans HBW.out).setCell HW.out.2.1 _⟩⟩
        have ho := HO.out
        rw [List.length_append, List.length_singleton] at ho
        rw [el]
        exact ⟨blk_put (cs := #[.slice B zs.length d]) HB1.out 0 _ rfl, HW.out.2.1, Kd.R_far ho (fun k hk => hk) _⟩
    · have hlb : decide ((i : Int) < (ys.length : Int)) = false := decide_eq_false hlt
      have hi2 : i = ys.length := by omega
      subst hi2
      rw [List.take_length] at HW
      go_wp2
      refine bodyPost_end (results_none rfl _ _ _) rfl ⟨rfl, ⟨_, HW.out⟩, HB.out⟩
end Go.Proofs.Ytppfkbigeknedaa.Q
