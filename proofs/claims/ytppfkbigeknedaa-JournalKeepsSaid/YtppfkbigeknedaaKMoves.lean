/- codec.Moves, by hand: each call is met once. -/
import Derived.Test.YtppfkbigeknedaaKInts
import Derived.Test.YtppfkbigeknedaaKQcodecsmall
import Derived.Test.YtppfkbigeknedaaKQwirePut
namespace Go.Proofs.Ytppfkbigeknedaa.Q
open Go.RowKit Go.Proofs.YtppfkbigeknedaaW.PrintWords Go.Proofs.YtppfkbigeknedaaW.PrintLast Go.Proofs.YtppfkbigeknedaaW.PrintMore
set_option linter.unusedVariables false
set_option linter.unusedSimpArgs false
set_option maxRecDepth 100000
attribute [local go_sem] eqe_ii eqe_nn eqe_ni eqe_nni
theorem IsWr.below {base g : Nat} {W W1 : World} {xs : List Int} {v : Value} (h : IsWr base g W xs v) (hb : Below W.heap.size W W1) : IsWr base g W1 xs v :=
  ⟨blk_below h.1 hb, h.2.1, Kd.R_below h.2.2 hb⟩
theorem R_lit_num (W : World) (base e : Nat) (k : IntKind) (xs : List Int) (hb : base ≤ W.heap.size) (hm : xs.length ≤ 9223372036854775807) :
    Kd.R (Kd.int k) e (W.alloc (.cells (nums k xs).toArray e)) base (fun _ => True) (.slice (some ⟨W.heap.size, 0, none⟩) xs.length xs.length) xs :=
  Kd.R_of_own (own_lit W base e k xs hb hm) (fun _ _ => trivial)
def okMove (m : S130) : Bool := 0 ≤ m.f0 ∧ m.f0 ≤ 2147483647 ∧ 0 ≤ m.f1 ∧ m.f1 ≤ 2147483647 ∧ 0 ≤ m.f2 ∧ m.f2 ≤ 2147483647 ∧ 0 ≤ m.f3 ∧ m.f3 ≤ 2147483647
def moveNums (m : S130) : List Int := [m.f0, m.f1, m.f2, m.f3]
def movesNums (l : List S130) : List Int := (l.length : Int) :: l.flatMap moveNums
theorem wrap_succ {i : Int} (h0 : 0 ≤ i) (h1 : i < 1000000) : wrap64 (i + 1) = i + 1 := by unfold wrap64; omega
theorem small_l0 (l : List Int) (hl : l.length < 100000) : ∀ d k (i : Nat), i + d = l.length → d < k → codec_small.l0 k l (l.length : Int) i = some ((l.drop i).all (fun n => decide (0 ≤ n ∧ n ≤ 2147483647)))
  | 0, k + 1, i, hd, hk => by
    unfold codec_small.l0
    rw [if_neg (by omega), List.drop_eq_nil_of_le (by omega)]
    rfl
  | d + 1, k + 1, i, hd, hk => by
    have hi : i < l.length := by omega
    have ih := small_l0 l hl d k (i + 1) (by omega) (by omega)
    unfold codec_small.l0
    rw [if_pos (by omega), if_pos (by omega), if_pos (by omega), wrap_succ (by omega) (by omega), List.drop_eq_getElem_cons hi, List.all_cons]
    have e : rd l (i : Int) = l[i] := by simp [rd, List.getElem?_eq_getElem hi]
    rw [e]
    rw [show ((i : Int) + 1) = ((i + 1 : Nat) : Int) by omega, ih]
    by_cases h1 : l[i] < 0
    · rw [if_pos h1, decide_eq_false (by omega)]; rfl
    by_cases h2 : l[i] > 2147483647
    · rw [if_neg h1, if_pos h2, decide_eq_false (by omega)]; rfl
    · rw [if_neg h1, if_neg h2, decide_eq_true (by omega)]; rfl
theorem small_ev (m : S130) : codec_small.f 5 (moveNums m) = some (okMove m) := by
  have h := small_l0 (moveNums m) (by simp [moveNums]) 4 5 0 rfl (by omega)
  unfold codec_small.f
  refine h.trans ?_
  simp [moveNums, okMove, Bool.and_assoc]
def movesF (k : Nat) (l : List S130) : Option (List Int × Option Int) :=
  if l.length > 40 then some ([], some 1) else if l.all okMove = true then (wire_Put.f k (movesNums l)).bind fun r => some (r, none) else some ([], some 1)
theorem movesF_mono : ∀ l k, LeO (movesF k l) (movesF (k + 1) l) := by
  intro l k
  unfold movesF
  exact LeO.ite (LeO.refl _) (LeO.ite (LeO.bind (wire_Put.mono _ _) (fun _ => LeO.refl _)) (LeO.refl _))
set_option maxHeartbeats 8000000 in
theorem moves_calls (k : Nat) (A : Option Addr) (c : Nat) (l : List S130) (r1 : List Int) (r2 : Option Int) (w : World) (hr : Kd.C k130 w A l.length l) (hc : l.length ≤ c) (h : movesF k l = some (r1, r2)) :
    Calls Try.prog 119 #[.slice A l.length c] w fun e w' => ∃ v, e = .returned (.tuple #[v, errW r2]) ∧ Kd.R (Kd.int .u8) 5 w' w.heap.size (fun _ => True) v r1 ∧ Below w.heap.size w w' := by
  have HR := Aside0.mk hr
  have H := Aside0.mk h
  clear hr h
  by_cases hl : (40 : Int) < (l.length : Int)
  · have h := H.out
    unfold movesF at h
    rw [if_pos (by omega)] at h
    simp only [Option.some.injEq, Prod.mk.injEq] at h
    obtain ⟨rfl, rfl⟩ := h
    have hd : decide ((40 : Int) < (l.length : Int)) = true := decide_eq_true hl
    rw [errW_some]
    go_enter Try.func119, Try.ntmps119
    go_wp2
    go_ret2
    exact ⟨_, rfl, Kd.R_nil _ _ _ _ _, by repeat (first | exact Below.refl _ _ | apply below_alloc | apply pw_below_drewN | apply below_drew1)⟩
  have hd : decide ((40 : Int) < (l.length : Int)) = false := decide_eq_false hl
  have h := H.out
  unfold movesF at h
  rw [if_neg (by omega)] at h
  replace H := Aside0.mk h
  have HL := Aside0.mk (show l.length ≤ 40 by omega)
  clear h hl
  go_enter Try.func119, Try.ntmps119
  go_wp2_with (first | ((with_reducible refine gate_dst (N := 12) rfl ?_); refine box_event ?hg (N := 12) ?hd (cs := #[.slice none 0 0]) (t := 194) ?hr ?_; (case hd => rfl); (case hg => rfl); (case hr => first | (go_simp; done) | (go_simp; rfl)); intro g hg w1 hbox hb; have HG := Aside0.mk hg; have HBX := Aside0.mk hbox; have HB := Aside0.mk hb; clear hg hbox hb))
  have hlit := R_lit_num w1 w1.heap.size 3 .i64 [(l.length : Int)] (Nat.le_refl _) (by simp)
  have hwr : IsWr w.heap.size g (w1.alloc (.cells #[.int .i64 (l.length : Int)] 3)) [] (.slice none 0 0) := ⟨blk_below HBX.out (below_alloc (Below.refl _ _) _), Nat.le_of_eq HG.out.symm, Kd.R_nil _ _ _ _ _⟩
  have HB1 := Aside0.mk (below_alloc HB.out (.cells #[.int .i64 (l.length : Int)] 3))
  have hpos : ∀ y ∈ [(l.length : Int)], 0 ≤ y ∧ y < 9223372036854775808 := by intro y hy; have := HL.out; simp at hy; omega
  refine (writer_ints hwr hlit (by simp) hpos).mono ?_
  clear hwr hlit hpos HBX HB HG
  rintro e w2 ⟨v2, rfl, hw2, hb2⟩
  have HW2 := Aside0.mk hw2
  have HB2 := Aside0.mk (HB1.out.trans hb2)
  clear hw2 hb2 HB1
  go_wp2
  have hll : (l.length : Int) ≤ 40 := by have := HL.out; omega
  go_loopw [20] (fun v20 w' => ∃ (i : Nat) (v' : Value), v20 = .int .i64 i ∧ i ≤ l.length ∧ Aside0 (IsWr w.heap.size g w' ((l.length : Int) :: (l.take i).flatMap moveNums) v') ∧ Aside0 ((l.take i).all okMove = true) ∧ Aside0 (Below w.heap.size w w')) (fun v20 _ => l.length - (intOf v20).toNat)
  case atStart => exact ⟨0, v2, rfl, by omega, ⟨HW2.out⟩, ⟨rfl⟩, HB2⟩
  case round =>
    clear HW2 HB2
    obtain ⟨i, v', rfl, hi, HW, HA, HB⟩ := hrel
    by_cases hlt : (i : Int) < (l.length : Int)
    · have hlb : decide ((i : Int) < (l.length : Int)) = true := decide_eq_true hlt
      have hi' : i < l.length := by omega
      obtain ⟨ad, e, e0, e1, e2, e3⟩ := at_T130 (Kd.C_below HR.out HB.out) (i : Int) (by omega) (by omega)
      cases e
      obtain ⟨m, hm⟩ : ∃ m, rd_T130 l (i : Int) = m := ⟨_, rfl⟩
      rw [hm] at e0 e1 e2 e3
      simp only [Int.toNat_natCast] at e0 e1 e2 e3
      have hgi : l[i]? = some m := by rw [← hm]; simp [rd_T130, List.getElem?_eq_getElem hi']
      have HGI := Aside0.mk hgi
      clear hm hgi
      go_wp2_with fail
      have hlit : Kd.R (Kd.int .i64) 3 ((wr.alloc (.cells #[.int .i64 m.f0, .int .i64 m.f1, .int .i64 m.f2, .int .i64 m.f3] 130)).alloc (.cells #[.int .i64 m.f0, .int .i64 m.f1, .int .i64 m.f2, .int .i64 m.f3] 3)) (wr.heap.size + 1) (fun _ => True) (.slice (some ⟨wr.heap.size + 1, 0, none⟩) 4 4) (moveNums m) := by
        have h := R_lit_num (wr.alloc (.cells #[.int .i64 m.f0, .int .i64 m.f1, .int .i64 m.f2, .int .i64 m.f3] 130)) (wr.heap.size + 1) 3 .i64 (moveNums m) (by simp) (by simp [moveNums])
        simpa [moveNums, nums] using h
      have HBa := Aside0.mk (below_alloc (below_alloc HB.out (.cells #[.int .i64 m.f0, .int .i64 m.f1, .int .i64 m.f2, .int .i64 m.f3] 130)) (.cells #[.int .i64 m.f0, .int .i64 m.f1, .int .i64 m.f2, .int .i64 m.f3] 3))
      have HWa := Aside0.mk (HW.out.below (below_alloc (below_alloc (Below.refl _ _) (.cells #[.int .i64 m.f0, .int .i64 m.f1, .int .i64 m.f2, .int .i64 m.f3] 130)) (.cells #[.int .i64 m.f0, .int .i64 m.f1, .int .i64 m.f2, .int .i64 m.f3] 3)))
      refine (codec_small.calls 5 _ 4 (moveNums m) (okMove m) _ (Kd.R_reads' hlit).2.2 (by simp [moveNums]) (small_ev m)).mono ?_
      rintro e w3 ⟨rfl, ⟨n, rfl⟩⟩
      have HBb := Aside0.mk (pw_below_drewN HBa.out n)
      have HWb := Aside0.mk (HWa.out.below (pw_below_drewN (Below.refl _ _) n))
      clear hlit HBa HWa
      by_cases hok : okMove m = true
      · rw [hok]
        have HOK := Aside0.mk hok
        clear hok
        go_wp2_with fail
        have hlit := R_lit_num (((wr.alloc (.cells #[.int .i64 m.f0, .int .i64 m.f1, .int .i64 m.f2, .int .i64 m.f3] 130)).alloc (.cells #[.int .i64 m.f0, .int .i64 m.f1, .int .i64 m.f2, .int .i64 m.f3] 3)).drewN n) (wr.heap.size + 1 + 1) 3 .i64 (moveNums m) (by simp) (by simp [moveNums])
        have hlit : Kd.R (Kd.int .i64) 3 ((((wr.alloc (.cells #[.int .i64 m.f0, .int .i64 m.f1, .int .i64 m.f2, .int .i64 m.f3] 130)).alloc (.cells #[.int .i64 m.f0, .int .i64 m.f1, .int .i64 m.f2, .int .i64 m.f3] 3)).drewN n).alloc (.cells #[.int .i64 m.f0, .int .i64 m.f1, .int .i64 m.f2, .int .i64 m.f3] 3)) (wr.heap.size + 1 + 1) (fun _ => True) (.slice (some ⟨wr.heap.size + 1 + 1, 0, none⟩) (moveNums m).length 4) (moveNums m) := by
          simpa [moveNums, nums] using hlit
        have HBc := Aside0.mk (below_alloc HBb.out (.cells #[.int .i64 m.f0, .int .i64 m.f1, .int .i64 m.f2, .int .i64 m.f3] 3))
        have hwc := HWb.out.below (below_alloc (Below.refl _ _) (.cells #[.int .i64 m.f0, .int .i64 m.f1, .int .i64 m.f2, .int .i64 m.f3] 3))
        have hom : 0 ≤ m.f0 ∧ m.f0 ≤ 2147483647 ∧ 0 ≤ m.f1 ∧ m.f1 ≤ 2147483647 ∧ 0 ≤ m.f2 ∧ m.f2 ≤ 2147483647 ∧ 0 ≤ m.f3 ∧ m.f3 ≤ 2147483647 := by simpa [okMove] using HOK.out
        have hpos : ∀ y ∈ moveNums m, 0 ≤ y ∧ y < 9223372036854775808 := by
          intro y hy
          simp only [moveNums, List.mem_cons, List.not_mem_nil, or_false] at hy
          rcases hy with rfl | rfl | rfl | rfl <;> omega
        have hln : ((l.length : Int) :: (l.take i).flatMap moveNums).length + (moveNums m).length ≤ 100000 := by
          have h1 : ∀ l : List S130, (l.flatMap moveNums).length = 4 * l.length := by
            intro l
            induction l with
            | nil => rfl
            | cons a l ih => rw [List.flatMap_cons, List.length_append, ih]; simp [moveNums]; omega
          have := HL.out
          simp only [List.length_cons, h1, List.length_take, moveNums, List.length_nil]
          omega
        refine (writer_ints hwc hlit hln hpos).mono ?_
        clear hwc hlit hln hpos hom HBb HWb e0 e1 e2 e3
        rintro e w4 ⟨v4, rfl, hw4, hb4⟩
        have ht : l.take (i + 1) = l.take i ++ [m] := by rw [List.take_add_one, HGI.out]; rfl
        have hfm : (l.take (i + 1)).flatMap moveNums = (l.take i).flatMap moveNums ++ moveNums m := by rw [ht, List.flatMap_append]; simp
        have HW4 := Aside0.mk hw4
        have HB4 := Aside0.mk (HBc.out.trans hb4)
        have HFM := Aside0.mk hfm
        have HT := Aside0.mk ht
        clear hw4 hb4 HBc hfm ht
        go_wp2
        go_roundw
        case measure => simp [intOf]; omega
        case rel =>
          refine ⟨i + 1, v4, by go_num, by omega, ⟨?_⟩, ⟨?_⟩, HB4⟩
          · rw [HFM.out, ← List.cons_append]; exact HW4.out
          · rw [HT.out, List.all_append, HA.out]; simp [HOK.out]
      · replace hok := Bool.eq_false_iff.mpr hok
        have h := H.out
        rw [if_neg (fun ha => by rw [List.all_eq_true.1 ha m (List.mem_of_getElem? HGI.out)] at hok; cases hok)] at h
        simp only [Option.some.injEq, Prod.mk.injEq] at h
        obtain ⟨rfl, rfl⟩ := h
        rw [hok]
        clear hok
        go_wp2
        go_ret2
        exact ⟨_, by simp [errW_some], Kd.R_nil _ _ _ _ _, by repeat (first | (with_reducible exact HBb.out) | apply below_alloc | apply pw_below_drewN | apply below_drew1)⟩
    · have hlb : decide ((i : Int) < (l.length : Int)) = false := decide_eq_false hlt
      have hi2 : i = l.length := by omega
      subst hi2
      rw [List.take_length] at HW HA
      have h := H.out
      rw [if_pos HA.out] at h
      obtain ⟨r, A0, h⟩ := Option.bind_eq_some_iff.1 h
      have A1 := Aside0.mk A0
      simp only [Option.some.injEq, Prod.mk.injEq] at h
      obtain ⟨rfl, rfl⟩ := h
      obtain ⟨c0, f0⟩ := cellWr HW.out.1
      obtain ⟨B, d, rfl⟩ := Kd.R_slice HW.out.2.2
      have hrd := Kd.R_reads' HW.out.2.2
      have hzz : ∃ zs, (l.length : Int) :: l.flatMap moveNums = zs := ⟨_, rfl⟩
      obtain ⟨zs, hzs⟩ := hzz
      rw [hzs] at c0 hrd HW
      have A2 : Aside0 (wire_Put.f k zs = some r) := ⟨by rw [← hzs]; exact A0⟩
      have HRD := Aside0.mk hrd
      clear A0 A1 hzs hrd
      go_wp2_with fail
      refine (wire_Put.calls k _ d zs r _ HRD.out.2.2 HRD.out.2.1 A2.out).mono ?_
      rintro e w5 ⟨v5, rfl, hr5, hb5⟩
      have HR5 := Aside0.mk (Kd.R_lower hr5 HB.out.size)
      have HB5 := Aside0.mk (below_step HB.out hb5)
      clear hr5 hb5 c0 f0
      go_wp2
      go_ret2
      exact ⟨_, by simp [errW_none], HR5.out, HB5.out⟩
end Go.Proofs.Ytppfkbigeknedaa.Q
