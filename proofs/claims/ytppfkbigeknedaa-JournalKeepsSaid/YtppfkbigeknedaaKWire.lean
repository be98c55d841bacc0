/- wire.Get of one number and wire.All, by hand. -/
import Derived.Test.YtppfkbigeknedaaKReadLaws
import Derived.Test.YtppfkbigeknedaaKQwireone
namespace Go.Proofs.Ytppfkbigeknedaa.Q
open Go.RowKit Go.Proofs.YtppfkbigeknedaaW.PrintWords Go.Proofs.YtppfkbigeknedaaW.PrintLast Go.Proofs.YtppfkbigeknedaaW.PrintMore
set_option linter.unusedVariables false
set_option linter.unusedSimpArgs false
set_option maxRecDepth 100000
attribute [local go_sem] eqe_ii eqe_nn eqe_ni eqe_nni
theorem one_some {W : World} {A : Option Addr} {c : Nat} {b : List Int} (hr : Kd.C (Kd.int .u8) W A b.length b) (hc : b.length ≤ c) (hb : Bytes b) (hl : b.length ≤ 1000000) {a : Nat} (ha : a ≤ b.length) {n : Int} {l : Nat} (h : oneG 9 (b.drop a) = some (n, l)) :
    Calls Try.prog 141 #[.slice A b.length c, .int .i64 (a : Int)] W fun e w' => e = .returned (.tuple #[.int .u64 n, .int .i64 ((a + l : Nat) : Int), .bool true]) ∧ Drawn0 W w' := by
  have hw := wone b hb hl a ha
  rw [h] at hw
  obtain ⟨k, hk⟩ := hw.rounds
  exact wire_one.calls k A c b a n _ true W hr hc hk
theorem one_none {W : World} {A : Option Addr} {c : Nat} {b : List Int} (hr : Kd.C (Kd.int .u8) W A b.length b) (hc : b.length ≤ c) (hb : Bytes b) (hl : b.length ≤ 1000000) {a : Nat} (ha : a ≤ b.length) (h : oneG 9 (b.drop a) = none) :
    Calls Try.prog 141 #[.slice A b.length c, .int .i64 (a : Int)] W fun e w' => e = .returned (.tuple #[.int .u64 0, .int .i64 0, .bool false]) ∧ Drawn0 W w' := by
  have hw := wone b hb hl a ha
  rw [h] at hw
  obtain ⟨k, hk⟩ := hw.rounds
  exact wire_one.calls k A c b a 0 0 false W hr hc hk
set_option maxHeartbeats 8000000 in
theorem get_some {W : World} {A : Option Addr} {c : Nat} {b : List Int} (hr : Kd.C (Kd.int .u8) W A b.length b) (hc : b.length ≤ c) (hb : Bytes b) (hl : b.length ≤ 1000000) {n : Int} {l : Nat} (h : oneG 9 b = some (n, l)) :
    Calls Try.prog 125 #[.slice A b.length c, .int .i64 1] W fun e w' => ∃ v, e = .returned (.tuple #[v, .int .i64 (l : Int), .nilIface]) ∧ Kd.R (Kd.int .u64) 31 w' W.heap.size (fun _ => True) v [n] ∧ Below W.heap.size W w' := by
  have HO := Aside0.mk (fun (w' : World) (hw : Below W.heap.size W w') => one_some (a := 0) (Kd.C_below hr hw) hc hb hl (Nat.zero_le _) h)
  clear hr hc hb hl h
  go_enter Try.func125, Try.ntmps125
  go_wp2
  go_loopw [7, 8] (fun v7 v8 w' => ∃ (zs : List Int) (a : Nat), v8 = .int .i64 (a : Int) ∧ (zs = [] ∧ a = 0 ∨ zs = [n] ∧ a = l) ∧ Aside0 (Kd.R (Kd.int .u64) 31 w' W.heap.size (fun _ => True) v7 zs) ∧ Aside0 (Below W.heap.size W w')) (fun v7 _ _ => 1 - (match v7 with | .slice _ m _ => m | _ => 0))
  case atStart => exact ⟨[], 0, rfl, Or.inl ⟨rfl, rfl⟩, ⟨Kd.R_nil _ _ _ _ _⟩, ⟨Below.refl _ _⟩⟩
  case round =>
    obtain ⟨zs, a, rfl, hz, HR, HB⟩ := hrel
    obtain ⟨A1, c1, rfl⟩ := Kd.R_slice HR.out
    rcases hz with ⟨rfl, rfl⟩ | ⟨rfl, rfl⟩
    · go_wp2_with fail
      refine (HO.out _ HB.out).mono ?_
      rintro e w2 ⟨rfl, ⟨m, rfl⟩⟩
      have HR2 := Aside0.mk (Kd.R_drewN HR.out m)
      have HB2 := Aside0.mk (pw_below_drewN HB.out m)
      clear HR HB
      go_wp2_with (first | ((with_reducible refine gate_builtin (b := .append) (xs := #[.tmp 29, .tmp 31]) rfl ?_); at_builtin; refine Kd.R_append (Kd.int .u64) (w0 := W) W.heap.size rfl (.tmp 29) (.tmp 31) 112 31 (.int .u64 0) 8 rfl Try.underlying112 info31 rfl (by decide) (by omega) (.slice A1 0 c1) [] n [.int .u64 n] (fun _ => True) (fun _ => False) rfl rfl ?aP (fun _ hk => hk.elim) ?aF ?aO ?aB ?aS ?aL ?_; (case aP => exact rfl); (case aB => exact HB2.out); (case aF => exact fun _ _ => trivial); (case aO => exact HR2.out); (case aS => exact below_size HB2.out); (case aL => simp); intro v1 w1 ho hb hg hat; obtain ⟨A3, c3, rfl⟩ := Kd.R_slice ho; have HR3 := Aside0.mk ho; have HB3 := Aside0.mk hb; clear ho hb hg hat))
      go_roundw
      case measure => simp
      case rel => exact ⟨[n], l, by simp, Or.inr ⟨rfl, rfl⟩, HR3, HB3⟩
    · go_wp2
      go_ret3
      exact ⟨_, rfl, HR.out, HB.out⟩
set_option maxHeartbeats 8000000 in
theorem get_none {W : World} {A : Option Addr} {c : Nat} {b : List Int} (hr : Kd.C (Kd.int .u8) W A b.length b) (hc : b.length ≤ c) (hb : Bytes b) (hl : b.length ≤ 1000000) (h : oneG 9 b = none) :
    Calls Try.prog 125 #[.slice A b.length c, .int .i64 1] W fun e w' => ∃ p, e = .returned (.tuple #[.slice none 0 0, .int .i64 0, .iface 201 p]) ∧ Below W.heap.size W w' := by
  have HO := Aside0.mk (fun (w' : World) (hw : Below W.heap.size W w') => one_none (a := 0) (Kd.C_below hr hw) hc hb hl (Nat.zero_le _) h)
  clear hr hc hb hl h
  go_enter Try.func125, Try.ntmps125
  go_wp2
  go_loopw [7, 8] (fun v7 v8 w' => v7 = .slice none 0 0 ∧ v8 = .int .i64 0 ∧ Aside0 (Below W.heap.size W w')) (fun _ _ _ => 0)
  case atStart => exact ⟨rfl, rfl, ⟨Below.refl _ _⟩⟩
  case round =>
    obtain ⟨rfl, rfl, HB⟩ := hrel
    go_wp2_with fail
    refine (HO.out _ HB.out).mono ?_
    rintro e w2 ⟨rfl, ⟨m, rfl⟩⟩
    have HB2 := Aside0.mk (pw_below_drewN HB.out m)
    clear HB
    go_wp2
    go_ret3
    exact ⟨_, rfl, by repeat (first | (with_reducible exact HB2.out) | apply below_alloc | apply pw_below_drewN | apply below_drew1)⟩
theorem allF_succ (f : Nat) (b : List Int) (hb : Bytes b) (hne : b ≠ []) : allF (f + 1) b = (oneG 9 b).bind fun p => (allF f (b.drop p.2)).map fun ns => p.1 :: ns := by
  cases b with
  | nil => exact absurd rfl hne
  | cons x r => rfl
set_option maxHeartbeats 8000000 in
theorem all_calls {W : World} {A : Option Addr} {c : Nat} {b : List Int} (hr : Kd.C (Kd.int .u8) W A b.length b) (hc : b.length ≤ c) (hb : Bytes b) (hl : b.length ≤ 1000000) :
    Calls Try.prog 143 #[.slice A b.length c] W fun e w' => Below W.heap.size W w' ∧ ((∃ p, allL b = none ∧ e = .returned (.tuple #[.slice none 0 0, .iface 201 p])) ∨
      ∃ v ns, allL b = some ns ∧ e = .returned (.tuple #[v, .nilIface]) ∧ Kd.R (Kd.int .u64) 31 w' W.heap.size (fun _ => True) v ns) := by
  have HR := Aside0.mk hr
  have HC := Aside0.mk hc
  have HBY := Aside0.mk hb
  have HL := Aside0.mk hl
  clear hr hc hb hl
  go_enter Try.func143, Try.ntmps143
  go_wp2
  go_loopw [4, 5] (fun v4 v5 w' => ∃ (acc : List Int) (a f : Nat), v5 = .int .i64 (a : Int) ∧ a ≤ b.length ∧ Aside0 (b.length - a ≤ f) ∧ Aside0 (acc.length ≤ a) ∧ Aside0 (allL b = (allF f (b.drop a)).map fun ns => acc ++ ns) ∧ Aside0 (Kd.R (Kd.int .u64) 31 w' W.heap.size (fun _ => True) v4 acc) ∧ Aside0 (Below W.heap.size W w')) (fun _ v5 _ => b.length - (intOf v5).toNat)
  case atStart => exact ⟨[], 0, b.length, rfl, Nat.zero_le _, ⟨Nat.sub_le _ _⟩, ⟨Nat.zero_le _⟩, ⟨by simp [allL]⟩, ⟨Kd.R_nil _ _ _ _ _⟩, ⟨Below.refl _ _⟩⟩
  case round =>
    obtain ⟨acc, a, f, rfl, ha, HF, HAC, HE, HV, HB⟩ := hrel
    obtain ⟨A1, c1, rfl⟩ := Kd.R_slice HV.out
    by_cases hlt : (a : Int) < (b.length : Int)
    · have hlb : decide ((a : Int) < (b.length : Int)) = true := decide_eq_true hlt
      have hlt' : a < b.length := by omega
      have hdl : (b.drop a).length = b.length - a := List.length_drop
      have hne : b.drop a ≠ [] := fun e => by rw [e] at hdl; simp at hdl; omega
      obtain ⟨f', rfl⟩ : ∃ f', f = f' + 1 := ⟨f - 1, by have := HF.out; omega⟩
      have hal := HE.out
      rw [allF_succ f' _ (HBY.out.drop a) hne] at hal
      cases ho : oneG 9 (b.drop a) with
      | none =>
        rw [ho] at hal
        have HAL := Aside0.mk hal
        have HCALL := Aside0.mk (one_none (c := c) (Kd.C_below HR.out HB.out) HC.out HBY.out HL.out ha ho)
        clear hal ho hne hdl
        go_wp2_with fail
        refine HCALL.out.mono ?_
        rintro e w2 ⟨rfl, ⟨m, rfl⟩⟩
        have HB2 := Aside0.mk (pw_below_drewN HB.out m)
        clear HB
        go_wp2
        go_ret2
        exact ⟨by repeat (first | (with_reducible exact HB2.out) | apply below_alloc | apply pw_below_drewN | apply below_drew1), Or.inl ⟨_, HAL.out, rfl⟩⟩
      | some p =>
        obtain ⟨n, l⟩ := p
        rw [ho] at hal
        have hbd := one9 _ (HBY.out.drop a) n l ho
        rw [hdl] at hbd
        simp only [Option.bind_some, List.drop_drop, Option.map_map] at hal
        have hal2 : allL b = (allF f' (b.drop (a + l))).map fun ns => (acc ++ [n]) ++ ns := by
          rw [hal]; congr 1; funext ns; simp
        have HAL := Aside0.mk hal2
        have HCALL := Aside0.mk (one_some (c := c) (Kd.C_below HR.out HB.out) HC.out HBY.out HL.out ha ho)
        have hle : a + l ≤ b.length := by omega
        have h1l : 1 ≤ l := hbd.2.2.1
        have hF2 := Aside0.mk (show b.length - (a + l) ≤ f' by have := HF.out; omega)
        have hA2 := Aside0.mk (show (acc ++ [n]).length ≤ a + l by have := HAC.out; simp; omega)
        have hAL := Aside0.mk (show (acc.length + 1) * 8 ≤ 140737488355328 by have := HAC.out; have := HL.out; omega)
        clear hal hal2 ho hne hdl hbd
        go_wp2_with fail
        refine HCALL.out.mono ?_
        rintro e w2 ⟨rfl, ⟨m, rfl⟩⟩
        have HV2 := Aside0.mk (Kd.R_drewN HV.out m)
        have HB2 := Aside0.mk (pw_below_drewN HB.out m)
        clear HV HB
        go_wp2_with (first | ((with_reducible refine gate_builtin (b := .append) (xs := #[.tmp 26, .tmp 28]) rfl ?_); at_builtin; refine Kd.R_append (Kd.int .u64) (w0 := W) W.heap.size rfl (.tmp 26) (.tmp 28) 112 31 (.int .u64 0) 8 rfl Try.underlying112 info31 rfl (by decide) (by omega) (.slice A1 acc.length c1) acc n [.int .u64 n] (fun _ => True) (fun _ => False) rfl rfl ?aP (fun _ hk => hk.elim) ?aF ?aO ?aB ?aS ?aL ?_; (case aP => exact rfl); (case aB => exact HB2.out); (case aF => exact fun _ _ => trivial); (case aO => exact HV2.out); (case aS => exact below_size HB2.out); (case aL => exact hAL.out); intro v1 w1 ho hb hg hat; obtain ⟨A3, c3, rfl⟩ := Kd.R_slice ho; have HR3 := Aside0.mk ho; have HB3 := Aside0.mk hb; clear ho hb hg hat))
        go_roundw
        case measure => simp [intOf]; omega
        case rel =>
          have hq := HR3.out
          rw [List.length_append, List.length_singleton] at hq
          exact ⟨acc ++ [n], a + l, f', by simp, hle, hF2, hA2, HAL, ⟨hq⟩, HB3⟩
    · have hlb : decide ((a : Int) < (b.length : Int)) = false := decide_eq_false hlt
      have hd : b.drop a = [] := List.drop_eq_nil_of_le (by omega)
      have hal := HE.out
      rw [hd, show allF f [] = some [] by cases f <;> rfl] at hal
      simp only [Option.map_some, List.append_nil] at hal
      have HAL := Aside0.mk hal
      clear hal hd
      go_wp2
      go_ret2
      exact ⟨HB.out, Or.inr ⟨_, acc, HAL.out, rfl, HV.out⟩⟩
end Go.Proofs.Ytppfkbigeknedaa.Q
