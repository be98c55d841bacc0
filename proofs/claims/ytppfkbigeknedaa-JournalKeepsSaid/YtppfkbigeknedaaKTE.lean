/- journal.Tear, Entries, merged -/
import Derived.Test.YtppfkbigeknedaaKAppJ
namespace Go.Proofs.Ytppfkbigeknedaa.Q
open Go.RowKit Go.Proofs.YtppfkbigeknedaaW.PrintWords Go.Proofs.YtppfkbigeknedaaW.PrintLast Go.Proofs.YtppfkbigeknedaaW.PrintMore
set_option linter.unusedVariables false
set_option linter.unusedSimpArgs false
set_option maxRecDepth 100000
attribute [local go_sem] eqe_ii eqe_nn eqe_ni eqe_nni max2_int min2_int max_two min_two
def cutN (n : Int) (l : Nat) : Int := if n ≤ 0 then 0 else if n ≤ l then n else l
def jTear (xs : List Int) (room : Int) (down : Bool) (a b : Int) (m : List S130) (n : Int) : Option Int × List Int × Bool :=
  if entryL a b m = [] then (some 1, xs, down) else dTear xs (recordL a b m) room down (cutN n (recordL a b m).length)
set_option maxHeartbeats 1600000 in
theorem jtear_bad {W : World} {gj : Nat} {A : Option Addr} {c : Nat} {a b : Int} {m : List S130} (n : Int) (hr : Kd.C k130 W A m.length m) (hc : m.length ≤ c) (he : entryL a b m = []) :
    Calls Try.prog 56 #[.pointer (some ⟨gj, 0, none⟩), .agg #[.int .i64 a, .int .i64 b, .slice A m.length c], .int .i64 n] W fun e w' => e = .returned (errW (some 1)) ∧ Below W.heap.size W w' := by
  have HB := Aside0.mk (bytes_bad (Kd.C_alloc hr (.cells #[.int .i64 a, .int .i64 b, .slice A m.length c] 60)) hc he)
  clear hr hc he
  go_enter Try.func56, Try.ntmps56
  go_wp2_with fail
  refine HB.out.mono ?_
  rintro e w1 ⟨v, rfl, hb⟩
  have HB1 := Aside0.mk (below_then (below_alloc (Below.refl W.heap.size W) (.cells #[.int .i64 a, .int .i64 b, .slice A m.length c] 60)) (by simp) hb)
  clear hb
  go_wp2
  go_ret
  exact ⟨by simp [errW_some], HB1.out⟩
set_option maxHeartbeats 1600000 in
theorem jtear_ok {gd gj : Nat} {w0 W : World} {xs : List Int} {room : Int} {down : Bool} {es : List S60} {vd vj : Value} {A : Option Addr} {c : Nat} {a b : Int} {m : List S130} (n : Int)
    (hD : IsD w0.heap.size gd W xs room down vd) (hJ : IsJ w0.heap.size gj W gd es vj) (hr : Kd.C k130 w0 A m.length m) (h0 : Below w0.heap.size w0 W) (hc : m.length ≤ c) (he : entryL a b m ≠ []) :
    Calls Try.prog 56 #[.pointer (some ⟨gj, 0, none⟩), .agg #[.int .i64 a, .int .i64 b, .slice A m.length c], .int .i64 n] W (AppPost w0.heap.size gd gj W room (jTear xs room down a b m n).2.2 (jTear xs room down a b m n).1 (jTear xs room down a b m n).2.1 es vd vj) := by
  unfold jTear
  rw [if_neg he]
  have HB := Aside0.mk (bytes_ok (Kd.C_alloc (Kd.C_below hr h0) (.cells #[.int .i64 a, .int .i64 b, .slice A m.length c] 60)) hc he)
  have HD := Aside0.mk hD
  have HJ := Aside0.mk hJ
  have hgd := blk_lt hD.1
  have HGD := Aside0.mk hgd
  obtain ⟨rc, hrc⟩ : ∃ p, recordL a b m = p := ⟨_, rfl⟩
  rw [hrc] at HB ⊢
  have htear := fun (w' : World) (A' : Option Addr) (c' : Nat) (h1 : IsD w0.heap.size gd w' xs room down vd) (h2 : Kd.C (Kd.int .u8) w' A' rc.length rc) (h3 : rc.length ≤ c') => disk_tear (n := cutN n rc.length) h1 h2 h3
  have hcn : min (max n 0) (rc.length : Int) = cutN n rc.length := by unfold cutN; split <;> (try split) <;> omega
  obtain ⟨q1, hq1⟩ : ∃ p, (dTear xs rc room down (cutN n rc.length)).1 = p := ⟨_, rfl⟩
  obtain ⟨q2, hq2⟩ : ∃ p, (dTear xs rc room down (cutN n rc.length)).2.1 = p := ⟨_, rfl⟩
  obtain ⟨q3, hq3⟩ : ∃ p, (dTear xs rc room down (cutN n rc.length)).2.2 = p := ⟨_, rfl⟩
  rw [hq1, hq2, hq3] at htear ⊢
  have HT := Aside0.mk htear
  have HCN := Aside0.mk hcn
  clear hD hJ hr hc he h0 htear hq1 hq2 hq3 hgd hrc hcn
  go_enter Try.func56, Try.ntmps56
  go_wp2_with fail
  refine HB.out.mono ?_
  rintro e w2 ⟨v2, rfl, hv2, hb2⟩
  obtain ⟨A2, c2, rfl⟩ := Kd.R_slice hv2
  have bal : Below W.heap.size W w2 := below_then (below_alloc (Below.refl W.heap.size W) (.cells #[.int .i64 a, .int .i64 b, .slice A m.length c] 60)) (by simp) hb2
  have HV2 := Aside0.mk hv2
  have HD2 := Aside0.mk (HD.out.below2 bal)
  have HJ2 := Aside0.mk (HJ.out.below bal)
  have HB2 := Aside0.mk bal
  obtain ⟨j0, j1, jf⟩ := cellJ HJ2.out.1
  clear hv2 hb2 bal HB HD HJ
  have HTX := Aside0.mk (fun (x : Int) (hx : x = cutN n rc.length) => (show Calls Try.prog 38 #[.pointer (some ⟨gd, 0, none⟩), .slice A2 rc.length c2, .int .i64 x] w2 (fun e w' => ∃ v', e = .returned (errW q1) ∧ IsD w0.heap.size gd w' q2 room q3 v' ∧ Below w0.heap.size w2 w' ∧ Kept w2 w' (fun k => k = gd ∨ vd.ownBlock = some k) ∧ (v'.ownBlock = vd.ownBlock ∨ ∃ b, v'.ownBlock = some b ∧ w2.heap.size ≤ b)) from by
    subst hx
    exact HT.out w2 A2 c2 HD2.out (Kd.R_reads' HV2.out).2.2 (Kd.R_reads' HV2.out).2.1))
  have hnj : ¬ (gj = gd ∨ vd.ownBlock = some gj) := fun hs => (HD2.out.types gj hs _ _ HJ2.out.1).2.2 rfl
  have HNJ := Aside0.mk hnj
  have hbW : w0.heap.size ≤ W.heap.size := Nat.le_trans HD2.out.2.1 (Nat.le_of_lt HGD.out)
  have HBW := Aside0.mk hbW
  clear HT HCN HV2 hnj hbW
  go_wp2_with fail
  all_goals
    refine (HTX.out _ ?hx).mono ?_
    case hx => unfold cutN; split <;> (try split) <;> omega
    clear HTX
    rintro e w4 ⟨vd4, rfl, hd4, hb4, hk4, ho4⟩
    have HJ4 := Aside0.mk (HJ2.out.kept hk4 HNJ.out (fun k hk cells q hc => ⟨(HD2.out.types k hk cells q hc).1, (HD2.out.types k hk cells q hc).2.1⟩))
    have HD4 := Aside0.mk hd4
    have HB4 := Aside0.mk ((HB2.out.mono HBW.out).trans hb4)
    have HK4 := Aside0.mk ((Kept.of_below HB2.out (JW gd gj vd vj)).then_ hk4 (fun k hk => Or.inl (Or.inl hk)))
    clear hd4 hb4 hk4 ho4 HJ2 HD2 HB2
    go_wp2
    go_ret
    exact ⟨vd4, vj, rfl, HD4.out, HJ4.out, HB4.out, HK4.out, Or.inl rfl⟩
theorem jtear_calls {gd gj : Nat} {w0 W : World} {xs : List Int} {room : Int} {down : Bool} {es : List S60} {vd vj : Value} {A : Option Addr} {c : Nat} {a b : Int} {m : List S130} (n : Int)
    (hD : IsD w0.heap.size gd W xs room down vd) (hJ : IsJ w0.heap.size gj W gd es vj) (hr : Kd.C k130 w0 A m.length m) (h0 : Below w0.heap.size w0 W) (hc : m.length ≤ c) :
    Calls Try.prog 56 #[.pointer (some ⟨gj, 0, none⟩), .agg #[.int .i64 a, .int .i64 b, .slice A m.length c], .int .i64 n] W (AppPost w0.heap.size gd gj W room (jTear xs room down a b m n).2.2 (jTear xs room down a b m n).1 (jTear xs room down a b m n).2.1 es vd vj) := by
  by_cases he : entryL a b m = []
  · refine (jtear_bad n (Kd.C_below hr h0) hc he).mono ?_
    rintro e w1 ⟨rfl, hb⟩
    unfold jTear
    rw [if_pos he]
    exact ⟨vd, vj, rfl, hD.below2 hb, hJ.below hb, hb.mono (Nat.le_trans hD.2.1 (Nat.le_of_lt (blk_lt hD.1))), Kept.of_below hb _, Or.inl rfl⟩
  · exact jtear_ok n hD hJ hr h0 hc he
end Go.Proofs.Ytppfkbigeknedaa.Q
namespace Go.Proofs.Ytppfkbigeknedaa.Q
open Go.RowKit Go.Proofs.YtppfkbigeknedaaW.PrintWords Go.Proofs.YtppfkbigeknedaaW.PrintLast Go.Proofs.YtppfkbigeknedaaW.PrintMore
set_option linter.unusedVariables false
set_option linter.unusedSimpArgs false
set_option maxRecDepth 100000
attribute [local go_sem] eqe_ii eqe_nn eqe_ni eqe_nni
set_option maxHeartbeats 1600000 in
theorem clone_entries {base : Nat} {W : World} {es : List S60} {v : Value} (h : k60.R 60 W base (fun _ => True) v es) (hbase : base ≤ W.heap.size) (hl : es.length ≤ 100000) :
    Calls Try.prog 103 #[v] W fun e w' => ∃ v', e = .returned v' ∧ k60.R 60 w' base (fun _ => True) v' es ∧ Below W.heap.size W w' ∧ ∀ k, v'.ownBlock = some k → W.heap.size ≤ k := by
  have H := Aside0.mk h
  have HL := Aside0.mk hl
  have HBS := Aside0.mk hbase
  obtain ⟨A, c, rfl⟩ := Kd.R_slice h
  have hrd := Kd.R_reads' h
  clear h hl hbase
  cases A with
  | none =>
    have he : ∀ w : World, (binOp .eql 79 (.slice none es.length c) (.slice none 0 0)).run Try.prog w = .ok (.bool true) w := fun _ => rfl
    have hes : es = [] := by
      cases es with
      | nil => rfl
      | cons y l => obtain ⟨ad, h1, _⟩ := hrd.2.2.2.2 (by simp); cases h1
    have HES := Aside0.mk hes
    clear hrd hes
    go_enter Try.func103, Try.ntmps103
    go_wp2
    go_ret
    refine ⟨_, rfl, by rw [HES.out]; exact Kd.R_nil _ _ _ _ _, by repeat (first | (with_reducible first | apply below_alloc | apply pw_below_drewN | apply below_drew1 | exact Below.refl _ _)), fun k hk => by simp [Value.ownBlock] at hk⟩
  | some ad =>
    have he : ∀ w : World, (binOp .eql 79 (.slice (some ad) es.length c) (.slice none 0 0)).run Try.prog w = .ok (.bool false) w := fun _ => rfl
    clear hrd
    have hok : k60.R 60 W base (fun k => k < W.heap.size) (.slice (some ad) es.length c) es := Kd.R_mono (Kd.R_bound H.out) (fun k hk => hk.2.2.1)
    have hrow := OwnRow.reads hok.2
    obtain ⟨A1, c1, e1, hl1, hrr⟩ := hrow
    injection e1 with e11 _ e12
    subst e11 e12
    have HRR := Aside0.mk hrr
    clear hok hl1 hrr
    go_enter Try.func103, Try.ntmps103
    go_wp2_with (first
      | ((with_reducible refine gate_dst (N := 5) rfl ?_); refine Kd.R_lit k60 (w0 := W) W.heap.size 60 ?hg (N := 5) ?hd (xs := ([] : List S60)) (inner := []) (ok := fun _ => True) (okp := fun _ => True) ?hr ?hp (fun _ hk => hk) trivial (Below.refl _ _) (Nat.le_refl _) (by simp) ?_; (case hd => rfl); (case hg => rfl); (case hr => first | (go_simp; done) | (go_simp; rfl)); (case hp => exact Reps.none _ _); intro v1 w1 ho hb hg_ hnew_; have HO := Aside0.mk ho; have HB := Aside0.mk hb; have HG := Aside0.mk hg_; have HN := Aside0.mk hnew_; clear ho hb hg_ hnew_)
      | ((with_reducible refine gate_builtin (b := .append) (xs := #[.tmp 5, .tmp 6]) rfl ?_); at_builtin; refine Kd.R_append_rows k60 (Rr := k60.M w1 base (fun k => k < W.heap.size)) (w0 := w1) base rfl (.tmp 5) (.tmp 6) 79 60 (.agg #[.int .i64 0, .int .i64 0, .slice none 0 0]) 40 rfl Try.underlying79 info60 rfl (by decide) (by omega) v1 [] es (some ad) es.length c (fun _ => True) (fun k => k < W.heap.size) rfl rfl ?aO ?aR (fun _ _ h => h) ?aK ?aF ?aB ?aS ?aL ?_; (case aR => exact ReadsRow.imp_ HRR.out HB.out (fun _ _ hp => Kd.M_below (k60.M_mono (fun k hk => hk.1) hp) HB.out)); (case aB => exact Below.refl _ _); (case aF => exact fun _ _ => trivial); (case aK => intro k hk; refine ⟨trivial, fun e => ?_⟩; obtain ⟨b, hb1, hb2⟩ := HN.out; rw [hb1] at e; injection e with e; omega); (case aO => exact Kd.R_lower HO.out HBS.out); (case aS => exact Nat.le_trans HBS.out HB.out.size); (case aL => have := HL.out; simp; omega); intro v2 w2 ho hb hg hat; have HO2 := Aside0.mk ho; have HG2 := Aside0.mk hg; have HAT := Aside0.mk hat; clear ho hb hg hat))
    go_ret
    refine ⟨v2, rfl, HO2.out, pw_below_grown HB.out _ HB.out.size HG2.out (fun k hk => ?_), fun k hk => ?_⟩
    · obtain ⟨b, hb1, hb2⟩ := HN.out
      rw [hb1] at hk
      injection hk with hk
      omega
    · rcases HAT.out with hat | ⟨b, hb1, hb2⟩
      · obtain ⟨b, hb1, hb2⟩ := HN.out
        rw [hat, hb1] at hk
        injection hk with hk
        omega
      · rw [hb1] at hk
        injection hk with hk
        have := HB.out.size
        omega
theorem R60_put {base g n cap : Nat} {W : World} {es : List S60} {i : Nat} {v2 v0 : Value} {e : S60} (h : k60.R 60 W base (fun _ => True) (.slice (some ⟨g, 0, none⟩) n cap) es) (hi : i < es.length) (hg : es[i]? = some e)
    (hc : ∀ j u, [Value.int .i64 e.f0, .int .i64 e.f1, v0][j]? = some u → W.cell? ⟨g, i * 3 + j, none⟩ = some u) (hv : k130.R 130 W base (fun k => k ≠ g) v2 e.f2) :
    k60.R 60 (W.setCell ⟨g, i * 3 + 2, none⟩ v2) base (fun _ => True) (.slice (some ⟨g, 0, none⟩) n cap) es := by
  have hn := (Kd.R_reads' h).1
  have h1 := Kd.R_seg (d := k60) h (i : Int) (by omega) (by omega) (c := [Value.int .i64 e.f0, .int .i64 e.f1, v0]) (seg := [v2]) (j := 2) rfl (by rw [Int.toNat_natCast]; exact hc) (show 2 + 1 ≤ 3 by decide) (okp := fun k => k ≠ g) (x' := e) (by
    show k60.M W base (fun k => k ≠ g) e [.int .i64 e.f0, .int .i64 e.f1, v2]
    exact k60_mkM W base _ e hv) (fun k hk => ⟨trivial, hk⟩)
  have h2 := h1.1
  rw [show (((i : Int)).toNat * k60.sz + 2) = i * 3 + 2 by rw [Int.toNat_natCast]; rfl] at h2
  have e1 : es.set ((i : Int)).toNat e = es := by
    rw [Int.toNat_natCast]
    have h3 : es[i] = e := by rw [List.getElem?_eq_getElem hi] at hg; exact Option.some.inj hg
    rw [← h3, List.set_getElem_self]
  rw [e1] at h2
  exact h2
set_option maxHeartbeats 1600000 in
theorem entries_calls {base gj gd : Nat} {W : World} {es : List S60} {vj : Value} (h : IsJ base gj W gd es vj) (hl : es.length ≤ 100000) (hm : ∀ e ∈ es, e.f2.length ≤ 100000) :
    Calls Try.prog 58 #[.pointer (some ⟨gj, 0, none⟩)] W fun e w' => ∃ A c, e = .returned (.slice A es.length c) ∧ es.length ≤ c ∧ Kd.C k60 w' A es.length es ∧ Below W.heap.size W w' := by
  have hbase : base ≤ W.heap.size := Nat.le_trans h.2.1 (Nat.le_of_lt (blk_lt h.1))
  have HCL := Aside0.mk (clone_entries h.2.2 hbase hl)
  have HL := Aside0.mk hl
  have HM := Aside0.mk hm
  have HBS := Aside0.mk hbase
  obtain ⟨j0, j1, jf⟩ := cellJ h.1
  clear h hl hm hbase
  go_enter Try.func58, Try.ntmps58
  go_wp2_with fail
  refine HCL.out.mono ?_
  rintro e w1 ⟨v1, rfl, hr1, hb1, hk1⟩
  obtain ⟨A1, c1, rfl⟩ := Kd.R_slice hr1
  have HR1 := Aside0.mk hr1
  have HB1 := Aside0.mk hb1
  have HK1 := Aside0.mk hk1
  clear hr1 hb1 hk1 HCL j0 j1 jf
  go_wp2
  go_loopw [12] (fun v12 w' => ∃ i : Nat, v12 = .int .i64 (i : Int) ∧ i ≤ es.length ∧ Aside0 (k60.R 60 w' base (fun _ => True) (.slice A1 es.length c1) es) ∧ Aside0 (Below W.heap.size W w')) (fun v12 _ => es.length - (intOf v12).toNat)
  case atStart => exact ⟨0, rfl, Nat.zero_le _, HR1, HB1⟩
  case round =>
    clear HR1 HB1
    obtain ⟨i, rfl, hi, HR, HB⟩ := hrel
    have hyl : (es.length : Int) ≤ 100000 := by have := HL.out; omega
    by_cases hlt : (i : Int) < (es.length : Int)
    · have hlb : decide ((i : Int) < (es.length : Int)) = true := decide_eq_true hlt
      have hi' : i < es.length := by omega
      obtain ⟨g, cap, hv, hgb, hgl, -⟩ := Kd.R_form HR.out (by omega)
      injection hv with hv1 _ hv2
      subst hv1 hv2
      obtain ⟨cs, hcl, hMM, hcc, hfz⟩ := Kd.R_elem HR.out z60 (i : Int) (by omega) (by omega)
      obtain ⟨v0, rfl, hr0⟩ := k60_openM hMM
      obtain ⟨e, he⟩ : ∃ e, es.getD ((i : Int)).toNat z60 = e := ⟨_, rfl⟩
      have hge : es[i]? = some e := by rw [← he]; simp [List.getElem?_eq_getElem hi']
      rw [he] at hcc hr0
      simp only [Int.toNat_natCast] at hcc hfz
      have hcc' : ∀ j u, [Value.int .i64 e.f0, .int .i64 e.f1, v0][j]? = some u → wr.cell? ⟨g, i * 3 + j, none⟩ = some u := hcc
      obtain ⟨A0, c0, rfl⟩ := Kd.R_slice hr0
      have hrd0 := Kd.R_reads' hr0
      have hf : api_Move.f e.f2 = some e.f2 := by unfold api_Move.f; rw [if_pos (by have := HM.out e (List.mem_of_getElem? hge); omega)]
      have HCM := Aside0.mk (api_Move.calls A0 c0 e.f2 e.f2 wr hrd0.2.2 hrd0.2.1 hf)
      have z2 : wr.cell? ⟨g, i * 3 + 2, none⟩ = some (.slice A0 e.f2.length c0) := hcc' 2 _ rfl
      have HCC := Aside0.mk hcc'
      have HGE := Aside0.mk hge
      have HGS := Aside0.mk (HK1.out g rfl)
      have HFZ := Aside0.mk (show wr.frozen? ⟨g, i * 3 + 2, none⟩ = false from hfz 2)
      clear hcl hMM hcc hfz he hge hcc' hr0 hrd0 hf hgb hgl
      go_wp2_with fail
      refine HCM.out.mono ?_
      rintro e2 w2 ⟨v5, rfl, hv5, hb5⟩
      obtain ⟨A5, c5, rfl⟩ := Kd.R_slice hv5
      have hgw : g < wr.heap.size := by
        have := Kd.R_lt HR.out g rfl
        exact this
      have hbs : base ≤ wr.heap.size := Nat.le_trans HBS.out HB.out.size
      have HV5 := Aside0.mk (show k130.R 130 w2 base (fun k => k ≠ g) (.slice A5 e.f2.length c5) e.f2 from Kd.R_mono (Kd.R_bound (Kd.R_lower hv5 (Nat.le_refl _)) |> fun h => Kd.R_lower h hbs) (fun k hk => by have := hk.2.1; omega))
      have hcell : ∀ j u, [Value.int .i64 e.f0, .int .i64 e.f1, .slice A0 e.f2.length c0][j]? = some u → w2.cell? ⟨g, i * 3 + j, none⟩ = some u := fun j u hu => pw_cell_below hb5 (HCC.out j u hu)
      have x2 := hcell 2 _ rfl
      have xf : w2.frozen? ⟨g, i * 3 + 2, none⟩ = false := by rw [← HFZ.out]; exact World.frozen?_of_block (w := wr) (hb5.block g hgw)
      have HR2 := Aside0.mk (R60_put (Kd.R_below HR.out hb5) hi' HGE.out hcell HV5.out)
      have HB2 := Aside0.mk ((HB.out.trans (hb5.mono HB.out.size)).setCell (p := ⟨g, i * 3 + 2, none⟩) HGS.out (.slice A5 e.f2.length c5))
      clear hv5 hb5 hgw hbs hcell HV5 HCM z2
      go_wp2
      go_roundw
      case measure => simp [intOf]; omega
      case rel => exact ⟨i + 1, by go_num, by omega, HR2, HB2⟩
    · have hlb : decide ((i : Int) < (es.length : Int)) = false := decide_eq_false hlt
      have hrd := Kd.R_reads' HR.out
      have HRD := Aside0.mk hrd
      clear hrd
      go_wp2
      go_ret
      exact ⟨A1, c1, rfl, HRD.out.2.1, HRD.out.2.2, HB.out⟩
end Go.Proofs.Ytppfkbigeknedaa.Q
