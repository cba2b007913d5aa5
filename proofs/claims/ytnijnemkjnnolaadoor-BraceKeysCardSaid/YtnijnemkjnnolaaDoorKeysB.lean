/- The law BraceKeys, walked: for every length and number it answers true. -/
import Derived.Test.YtnijnemkjnnolaaDoorKeysA
namespace Go.Proofs.YtnijnemkjnnolaaDoor.P
open Go.RowKit Go.Proofs.YtnijnemkjnnolaaDoorW.PrintWords Go.Proofs.YtnijnemkjnnolaaDoorW.PrintLast Go.Proofs.YtnijnemkjnnolaaDoorW.PrintMore
attribute [local go_sem] max2_int min2_int max_two min_two max_three min_three max_four min_four
set_option linter.unusedVariables false
set_option linter.unusedSimpArgs false
theorem within_ok (a n : Int) (h0 : 0 < n) (hn : n ≤ 4611686018427387904) : ∃ r : Nat, transhumancelaw5_within.f a n = some (r : Int) ∧ (r : Int) < n := by
  have h1 := Int.lt_tmod_of_pos a h0
  have h2 := Int.tmod_lt_of_pos a h0
  unfold transhumancelaw5_within.f
  rw [if_neg (by omega)]
  by_cases h : Int.tmod a n < 0
  · rw [if_pos h]
    refine ⟨(Int.tmod a n + n).toNat, ?_, by omega⟩
    rw [show wrap64 (Int.tmod a n + n) = Int.tmod a n + n from by unfold wrap64; omega]
    congr 1
    omega
  · rw [if_neg h]
    exact ⟨(Int.tmod a n).toNat, by congr 1; omega, by omega⟩
theorem keys_at (n k : Nat) (hn : n < 11) (hk : k < n) : ∃ x y q1 q2 u1 u2, parseP (keysX n k) = (x, (q1, q2), 4) ∧ transhumanceref1_Place.f 300 (keysX n k) ((keysS n).size : Int) = some (q1, q2) ∧ parseP (keysY n k) = (y, (u1, u2), 0) ∧ y.f3.length = n + 1 := by
  have h := keys_all n k hn hk
  simp only [keysOk, Bool.and_eq_true, beq_iff_eq, decide_eq_true_eq] at h
  obtain ⟨⟨⟨h1, h2⟩, h3⟩, h4⟩ := h
  exact ⟨(parseP (keysX n k)).1, (parseP (keysY n k)).1, (parseP (keysX n k)).2.1.1, (parseP (keysX n k)).2.1.2, (parseP (keysY n k)).2.1.1, (parseP (keysY n k)).2.1.2, by rw [← h1], h2, by rw [← h3], h4⟩
set_option maxHeartbeats 8000000 in
set_option maxRecDepth 100000 in
theorem keys_walk (A : Option Addr) (len cap : Nat) (a1 : Int) (w : World) (hlen : (len : Int) ≤ 140737488351232) (w1 : (Lit.int .i64 a1).wf = true) (hTab : Tab w) :
    Calls Tryd.prog 4 #[.slice A len cap, .int .i64 a1] w fun e w' => e = .returned (.bool true) ∧ Below w.heap.size w w' := by
  obtain ⟨r, hr, hrlt⟩ := within_ok (len : Int) 10 (by omega) (by omega)
  obtain ⟨n, hn⟩ : ∃ n : Nat, n = 1 + r := ⟨_, rfl⟩
  have hn11 : n < 11 := by omega
  have en : wrap64 (1 + (r : Int)) = (n : Int) := by unfold wrap64; omega
  have en2 : (1 : Int) + (r : Int) = (n : Int) := by omega
  obtain ⟨k, hk, hklt⟩ := within_ok a1 (n : Int) (by omega) (by omega)
  have hkn : k < n := by omega
  obtain ⟨x, y, q1, q2, u1, u2, hX, hPl, hY, hl⟩ := keys_at n k hn11 hkn
  have szn := keysS_size n (by omega)
  have szk := (dg_at k (by omega)).2
  have hXs : (keysX n k).size ≤ 140737488351232 := by
    unfold keysX
    simp only [ByteArray.size_append]
    have a1 : (⟨#[34, 107]⟩ : ByteArray).size = 2 := rfl
    have a2 : (⟨#[34, 58, 48, 125]⟩ : ByteArray).size = 4 := rfl
    omega
  have hYs : (keysY n k).size ≤ 140737488351232 := by
    unfold keysY
    simp only [ByteArray.size_append]
    have a1 : (⟨#[34, 75]⟩ : ByteArray).size = 2 := rfl
    have a2 : (⟨#[34, 58, 48, 125]⟩ : ByteArray).size = 4 := rfl
    omega
  have HX := Lib.hid (fun W => parse_any (keysX n k) hXs W)
  rw [hX] at HX
  have HY := Lib.hid (fun W => parse_any (keysY n k) hYs W)
  rw [hY] at HY
  have HZ := Lib.hid (fun W => parse_any keysZ (by decide) W)
  rw [keysZ_is] at HZ
  have HPl := Lib.hid (fun W => transhumanceref1_Place.calls 300 (keysX n k) _ q1 q2 W hPl)
  unfold keysX at HX HPl
  unfold keysY at HY
  unfold keysZ at HZ
  have HW1 := Lib.hid (fun W => transhumancelaw5_within.calls (len : Int) 10 (r : Int) W hr)
  have HW2 := Lib.hid (fun W => transhumancelaw5_within.calls a1 (n : Int) (k : Int) W hk)
  have HD := Lib.hid (fun (i : Nat) (hi : i < 11) W => transhumanceref1_Digits.calls 100 (i : Int) (dg i) W (dg_at i hi).1)
  have HDz := Lib.hid (fun (i : Nat) (hi : i < 11) => (dg_at i hi).2)
  have HSz := Lib.hid keysS_size
  have HT := Lib.hid hTab
  have Hl := Lib.hid hl
  have Hk11 := Lib.hid (show k < 11 from by omega)
  have Hn11 := Lib.hid hn11
  have Hen := Lib.hid en2
  have Hen1 := Lib.hid en
  clear hr hk hX hPl hY hl hXs hYs szn szk hTab hn hkn hrlt hklt hn11 en2 en
  go_enter Tryd.func4, Tryd.ntmps4
  go_wp2_with (first
    | (go_at_call 6; go_must (refine (known_any _ HT.out).mono ?_); rintro e w2 ⟨rfl, hb⟩; have B2 := Lib.hid hb; clear hb)
    | (go_at_call 7; go_must (refine (HW1.out _).mono ?_); rintro e w3 ⟨rfl, ⟨n3, rfl⟩⟩; have B3 := Lib.hid (pw_below_drewN B2.out n3)))
  rw [Hen1.out]
  go_loopg [7, 5] n (fun kq v7 v5 wr => ∃ i : Nat, i ≤ n ∧ kq = n - i ∧ v7 = .int .i64 i ∧ v5 = .string (keysS i) ∧ Below w.heap.size w wr)
  case atStart => exact ⟨0, Nat.zero_le _, rfl, rfl, rfl, B3.out⟩
  case round =>
    obtain ⟨i, hi, hiq, rfl, rfl, hB⟩ := hrel
    have HB := Lib.hid hB
    by_cases hlt : i < n
    · have i11 := Lib.hid (show i < 11 from by have := Hn11.out; omega)
      have l1 : (i : Int) < (n : Int) := by omega
      have l2 : decide (i < n) = true := decide_eq_true hlt
      have z1 := HSz.out i (by have := i11.out; omega)
      have z2 := HDz.out i i11.out
      have z3 : (i : Int) ≤ 11 := by have := i11.out; omega
      have z4 : (keysS i).size ≤ 200 := by have := i11.out; omega
      have Hlt := Lib.hid hlt
      clear z1 hlt hB
      go_wp2_with (go_at_call 11; go_must (refine (HD.out i i11.out _).mono ?_); rintro e w4 ⟨rfl, hb⟩; replace HB := Lib.hid (HB.out.trans (hb.mono HB.out.size)); clear hb)
      go_roundg (n - (i + 1))
      case measure => have := Hlt.out; omega
      case rel => exact ⟨i + 1, by have := Hlt.out; omega, rfl, by go_num, rfl, HB.out⟩
    · obtain rfl : i = n := by omega
      have l1 : ¬ ((i : Int) < (i : Int)) := by omega
      have z2 := HDz.out k Hk11.out
      have z4 : (keysS i).size ≤ 200 := by have := HSz.out i (by have := Hn11.out; omega); have := Hn11.out; omega
      clear hB
      go_wp2_with (first
        | (go_at_call 7; go_must (refine (HW2.out _).mono ?_); rintro e w3 ⟨rfl, ⟨n4, rfl⟩⟩; replace HB := Lib.hid (pw_below_drewN HB.out n4))
        | (go_at_call 11; go_must (refine (HD.out k Hk11.out _).mono ?_); rintro e w4 ⟨rfl, hb⟩; replace HB := Lib.hid (HB.out.trans (hb.mono HB.out.size)); clear hb)
        | (go_at_call 8; (first
          | ((with_reducible refine (HX.out _).mono ?_); rintro e v1 ⟨v3, v4, rfl, h3, h4, hb⟩; obtain ⟨A3, c3, hv3⟩ := own_slice h3.2.choose_spec.1; obtain ⟨A4, c4, hv4⟩ := own_slice h4.2.choose_spec.1; subst hv3; subst hv4; have hp := blk_new (v1.alloc (.cells #[.int .i64 x.f0, .int .i64 x.f1, .string x.f2, .slice A3 x.f3.length c3, .slice A4 x.f4.length c4] 27)) (.cells #[.int .i64 q1, .int .i64 q2] 29); rw [World.size_alloc] at hp; have X1 := Lib.hid hp; replace HB := Lib.hid (HB.out.trans ((below_alloc (below_alloc hb (.cells #[.int .i64 x.f0, .int .i64 x.f1, .string x.f2, .slice A3 x.f3.length c3, .slice A4 x.f4.length c4] 27)) (.cells #[.int .i64 q1, .int .i64 q2] 29)).mono HB.out.size)); clear h3 h4 hb hp)
          | ((with_reducible refine (HY.out _).mono ?_); rintro e v2 ⟨v3, v4, rfl, h3, h4, hb⟩; obtain ⟨B3, d3, hv3⟩ := own_slice h3.2.choose_spec.1; obtain ⟨B4, d4, hv4⟩ := own_slice h4.2.choose_spec.1; subst hv3; subst hv4; have hd := below_alloc (below_alloc hb (.cells #[.int .i64 y.f0, .int .i64 y.f1, .string y.f2, .slice B3 y.f3.length d3, .slice B4 y.f4.length d4] 27)) (.cells #[.int .i64 u1, .int .i64 u2] 29); replace X1 := Lib.hid (blk_below X1.out hd); have hp := blk_alloc (blk_new v2 (.cells #[.int .i64 y.f0, .int .i64 y.f1, .string y.f2, .slice B3 y.f3.length d3, .slice B4 y.f4.length d4] 27)) (.cells #[.int .i64 u1, .int .i64 u2] 29); have X2 := Lib.hid hp; replace HB := Lib.hid (HB.out.trans (hd.mono HB.out.size)); clear h3 h4 hb hp hd)
          | (go_must (refine (HZ.out _).mono ?_); rintro e v5 ⟨v3, v4, rfl, h3, h4, hb⟩; obtain ⟨C3, e3, hv3⟩ := own_slice h3.2.choose_spec.1; obtain ⟨C4, e4, hv4⟩ := own_slice h4.2.choose_spec.1; subst hv3; subst hv4; have hd := below_alloc (below_alloc hb (.cells #[.int .i64 0, .int .i64 0, .string ⟨#[]⟩, .slice C3 0 e3, .slice C4 0 e4] 27)) (.cells #[.int .i64 1, .int .i64 9] 29); replace X1 := Lib.hid (blk_below X1.out hd); replace X2 := Lib.hid (blk_below X2.out hd); have hp := blk_new (v5.alloc (.cells #[.int .i64 0, .int .i64 0, .string ⟨#[]⟩, .slice C3 0 e3, .slice C4 0 e4] 27)) (.cells #[.int .i64 1, .int .i64 9] 29); rw [World.size_alloc] at hp; have X3 := Lib.hid hp; replace HB := Lib.hid (HB.out.trans (hd.mono HB.out.size)); clear h3 h4 hb hp hd))))
      have b11 := Hn11.out
      have e7 : wrap64 ((i : Int) + 1) = (i : Int) + 1 := by unfold wrap64; omega
      have e8 : IntKind.i64.wrap ((i : Int) + 1) = (i : Int) + 1 := IntWalk.i64_in _ (by omega)
      have e6 : (((i + 1 : Nat) : Int) == (i : Int) + 1) = true := by rw [beq_iff_eq]; omega
      have e9 : ((i : Int) + 1 == (i : Int) + 1) = true := beq_self_eq_true _
      clear b11
      refine start_ (n := 31) (S := fun w' => w'.cell? ⟨v1.heap.size + 1, 0, none⟩ = some (.int .i64 q1) ∧ w'.cell? ⟨v1.heap.size + 1, 1, none⟩ = some (.int .i64 q2) ∧ w'.cell? ⟨v2.heap.size, 3, none⟩ = some (.slice B3 (i + 1) d3) ∧ w'.cell? ⟨v5.heap.size + 1, 0, none⟩ = some (.int .i64 1) ∧ w'.cell? ⟨v5.heap.size + 1, 1, none⟩ = some (.int .i64 9)) (ds := []) #[false, false, false, false, false, false, false, false, false, false, false, false, false, false, false, false, false, false, false, false, false, false, false, false, false, false, false, false, false, false, false] (by kernel_rfl) rfl rfl ⟨(blk_cell X1.out 0).trans rfl, (blk_cell X1.out 1).trans rfl, (blk_cell X2.out 3).trans (by rw [← Hl.out]; rfl), (blk_cell X3.out 0).trans rfl, (blk_cell X3.out 1).trans rfl⟩ (fun hHeld => ?_)
      refine pure_ (i := 0) (N := some 76) (v := ?_) (a' := ?_) #[true, false, false, false, false, false, false, false, false, false, false, false, false, false, false, false, false, false, false, false, false, false, false, false, false, false, false, false, false, false, false] rfl rfl (by kernel_rfl) (fun _ _ _ h => h) (Or.inl ⟨by rfl, ?_⟩) ?_ ?_
      rotate_left
      · intro w'
        go_simp
        with_reducible rfl
      rotate_left
      · simp only [Act.put, List.setIfInBounds_toArray, List.set_cons_zero, List.set_cons_succ, i64_w, i32_w]
        rfl
      refine pure_ (i := 1) (N := some 77) (v := ?_) (a' := ?_) #[true, true, false, false, false, false, false, false, false, false, false, false, false, false, false, false, false, false, false, false, false, false, false, false, false, false, false, false, false, false, false] rfl rfl (by kernel_rfl) (fun _ _ _ h => h) (Or.inl ⟨by rfl, ?_⟩) ?_ ?_
      rotate_left
      · intro w'
        go_simp
        with_reducible rfl
      rotate_left
      · simp only [Act.put, List.setIfInBounds_toArray, List.set_cons_zero, List.set_cons_succ, i64_w, i32_w]
        rfl
      refine pure_ (i := 2) (N := some 78) (v := ?_) (a' := ?_) #[true, true, true, false, false, false, false, false, false, false, false, false, false, false, false, false, false, false, false, false, false, false, false, false, false, false, false, false, false, false, false] rfl rfl (by kernel_rfl) (fun _ _ _ h => h) (Or.inl ⟨by rfl, ?_⟩) ?_ ?_
      rotate_left
      · intro w'
        go_simp
        with_reducible rfl
      rotate_left
      · simp only [Act.put, List.setIfInBounds_toArray, List.set_cons_zero, List.set_cons_succ, i64_w, i32_w]
        rfl
      refine pure_ (i := 4) (N := some 80) (v := ?_) (a' := ?_) #[true, true, true, false, true, false, false, false, false, false, false, false, false, false, false, false, false, false, false, false, false, false, false, false, false, false, false, false, false, false, false] rfl rfl (by kernel_rfl) (fun _ _ _ h => h) (Or.inl ⟨by rfl, ?_⟩) ?_ ?_
      rotate_left
      · intro w'
        go_simp
        with_reducible rfl
      rotate_left
      · simp only [Act.put, List.setIfInBounds_toArray, List.set_cons_zero, List.set_cons_succ, i64_w, i32_w]
        rfl
      refine pure_ (i := 5) (N := some 81) (v := ?_) (a' := ?_) #[true, true, true, false, true, true, false, false, false, false, false, false, false, false, false, false, false, false, false, false, false, false, false, false, false, false, false, false, false, false, false] rfl rfl (by kernel_rfl) (fun _ _ _ h => h) (Or.inl ⟨by rfl, ?_⟩) ?_ ?_
      rotate_left
      · intro w'
        go_simp
        with_reducible rfl
      rotate_left
      · simp only [Act.put, List.setIfInBounds_toArray, List.set_cons_zero, List.set_cons_succ, i64_w, i32_w]
        rfl
      refine take_ (i := 3) (N := some 79) (v := ?_) (a' := ?_) #[true, true, true, true, true, true, false, false, false, false, false, false, false, false, false, false, false, false, false, false, false, false, false, false, false, false, false, false, false, false, false] rfl rfl (by kernel_rfl) (fun _ _ _ h => h) (Or.inl ⟨by rfl, ?_⟩) hHeld ?_ ?_
      rotate_left
      · rintro w' ⟨s0, s1, s2, s3, s4⟩
        go_simp
        with_reducible rfl
      rotate_left
      · simp only [Act.put, List.setIfInBounds_toArray, List.set_cons_zero, List.set_cons_succ, i64_w, i32_w]
        rfl
      refine one_ (i := 6) (N := some 82) #[true, true, true, true, true, true, true, false, false, false, false, false, false, false, false, false, false, false, false, false, false, false, false, false, false, false, false, false, false, false, false] rfl rfl (by kernel_rfl) (by decide) (fun K hK => ?_)
      refine goes_ Tryd.func9 (by kernel_rfl) rfl #[.string (((keysS i ++ ⟨#[34, 107]⟩) ++ dg k) ++ ⟨#[34, 58, 48, 125]⟩), .int .i64 (keysS i).size] (by rfl) rfl rfl (by simp only [List.map_toArray, List.map_cons, List.map_nil]; rfl) ?_
      with_reducible refine (HPl.out _).mono ?_
      rintro e w6 ⟨rfl, hb⟩
      refine ⟨_, rfl, ?_⟩
      replace HB := Lib.hid ((below_drew1 HB.out).trans (hb.mono HB.out.size))
      refine hK.out _ _ ⟨kp_cell hHeld.1 (Kp.of_below hb (fun _ => False)) (fun h => h), kp_cell hHeld.2.1 (Kp.of_below hb (fun _ => False)) (fun h => h), kp_cell hHeld.2.2.1 (Kp.of_below hb (fun _ => False)) (fun h => h), kp_cell hHeld.2.2.2.1 (Kp.of_below hb (fun _ => False)) (fun h => h), kp_cell hHeld.2.2.2.2 (Kp.of_below hb (fun _ => False)) (fun h => h)⟩ (fun hHeld => ?_)
      clear hK K
      refine norm_ (a' := ?_) ?_ ?_
      rotate_left
      · show Act.put _ (some 82) _ = _
        simp only [Act.put, List.setIfInBounds_toArray, List.set_cons_zero, List.set_cons_succ, i64_w, i32_w]
        rfl
      refine pure_ (i := 7) (N := some 83) (v := ?_) (a' := ?_) #[true, true, true, true, true, true, true, true, false, false, false, false, false, false, false, false, false, false, false, false, false, false, false, false, false, false, false, false, false, false, false] rfl rfl (by kernel_rfl) (fun _ _ _ h => h) (Or.inl ⟨by rfl, ?_⟩) ?_ ?_
      rotate_left
      · intro w'
        go_simp
        with_reducible rfl
      rotate_left
      · simp only [Act.put, List.setIfInBounds_toArray, List.set_cons_zero, List.set_cons_succ, i64_w, i32_w]
        rfl
      refine pure_ (i := 8) (N := some 84) (v := ?_) (a' := ?_) #[true, true, true, true, true, true, true, true, true, false, false, false, false, false, false, false, false, false, false, false, false, false, false, false, false, false, false, false, false, false, false] rfl rfl (by kernel_rfl) (fun _ _ _ h => h) (Or.inl ⟨by rfl, ?_⟩) ?_ ?_
      rotate_left
      · intro w'
        go_simp
        with_reducible rfl
      rotate_left
      · simp only [Act.put, List.setIfInBounds_toArray, List.set_cons_zero, List.set_cons_succ, i64_w, i32_w]
        rfl
      refine pure_ (i := 9) (N := some 85) (v := ?_) (a' := ?_) #[true, true, true, true, true, true, true, true, true, true, false, false, false, false, false, false, false, false, false, false, false, false, false, false, false, false, false, false, false, false, false] rfl rfl (by kernel_rfl) (fun _ _ _ h => h) (Or.inl ⟨by rfl, ?_⟩) ?_ ?_
      rotate_left
      · intro w'
        go_simp
        with_reducible rfl
      rotate_left
      · simp only [Act.put, List.setIfInBounds_toArray, List.set_cons_zero, List.set_cons_succ, i64_w, i32_w]
        rfl
      refine pure_ (i := 10) (N := some 86) (v := ?_) (a' := ?_) #[true, true, true, true, true, true, true, true, true, true, true, false, false, false, false, false, false, false, false, false, false, false, false, false, false, false, false, false, false, false, false] rfl rfl (by kernel_rfl) (fun _ _ _ h => h) (Or.inl ⟨by rfl, ?_⟩) ?_ ?_
      rotate_left
      · intro w'
        go_simp
        with_reducible rfl
      rotate_left
      · simp only [Act.put, List.setIfInBounds_toArray, List.set_cons_zero, List.set_cons_succ, i64_w, i32_w]
        rfl
      refine pure_ (i := 11) (N := some 87) (v := ?_) (a' := ?_) #[true, true, true, true, true, true, true, true, true, true, true, true, false, false, false, false, false, false, false, false, false, false, false, false, false, false, false, false, false, false, false] rfl rfl (by kernel_rfl) (fun _ _ _ h => h) (Or.inl ⟨by rfl, ?_⟩) ?_ ?_
      rotate_left
      · intro w'
        go_simp
        with_reducible rfl
      rotate_left
      · simp only [Act.put, List.setIfInBounds_toArray, List.set_cons_zero, List.set_cons_succ, i64_w, i32_w]
        rfl
      refine pure_ (i := 12) (N := some 88) (v := ?_) (a' := ?_) #[true, true, true, true, true, true, true, true, true, true, true, true, true, false, false, false, false, false, false, false, false, false, false, false, false, false, false, false, false, false, false] rfl rfl (by kernel_rfl) (fun _ _ _ h => h) (Or.inl ⟨by rfl, ?_⟩) ?_ ?_
      rotate_left
      · intro w'
        go_simp
        with_reducible rfl
      rotate_left
      · simp only [Act.put, List.setIfInBounds_toArray, List.set_cons_zero, List.set_cons_succ, i64_w, i32_w]
        rfl
      refine pure_ (i := 13) (N := some 89) (v := ?_) (a' := ?_) #[true, true, true, true, true, true, true, true, true, true, true, true, true, true, false, false, false, false, false, false, false, false, false, false, false, false, false, false, false, false, false] rfl rfl (by kernel_rfl) (fun _ _ _ h => h) (Or.inl ⟨by rfl, ?_⟩) ?_ ?_
      rotate_left
      · intro w'
        go_simp
        with_reducible rfl
      rotate_left
      · simp only [Act.put, List.setIfInBounds_toArray, List.set_cons_zero, List.set_cons_succ, i64_w, i32_w]
        rfl
      refine pure_ (i := 14) (N := some 90) (v := ?_) (a' := ?_) #[true, true, true, true, true, true, true, true, true, true, true, true, true, true, true, false, false, false, false, false, false, false, false, false, false, false, false, false, false, false, false] rfl rfl (by kernel_rfl) (fun _ _ _ h => h) (Or.inl ⟨by rfl, ?_⟩) ?_ ?_
      rotate_left
      · intro w'
        go_simp
        with_reducible rfl
      rotate_left
      · simp only [Act.put, List.setIfInBounds_toArray, List.set_cons_zero, List.set_cons_succ, i64_w, i32_w]
        rfl
      refine pure_ (i := 17) (N := some 93) (v := ?_) (a' := ?_) #[true, true, true, true, true, true, true, true, true, true, true, true, true, true, true, false, false, true, false, false, false, false, false, false, false, false, false, false, false, false, false] rfl rfl (by kernel_rfl) (fun _ _ _ h => h) (Or.inl ⟨by rfl, ?_⟩) ?_ ?_
      rotate_left
      · intro w'
        go_simp
        with_reducible rfl
      rotate_left
      · simp only [Act.put, List.setIfInBounds_toArray, List.set_cons_zero, List.set_cons_succ, i64_w, i32_w]
        rfl
      refine pure_ (i := 18) (N := some 94) (v := ?_) (a' := ?_) #[true, true, true, true, true, true, true, true, true, true, true, true, true, true, true, false, false, true, true, false, false, false, false, false, false, false, false, false, false, false, false] rfl rfl (by kernel_rfl) (fun _ _ _ h => h) (Or.inl ⟨by rfl, ?_⟩) ?_ ?_
      rotate_left
      · intro w'
        go_simp
        with_reducible rfl
      rotate_left
      · simp only [Act.put, List.setIfInBounds_toArray, List.set_cons_zero, List.set_cons_succ, i64_w, i32_w]
        rfl
      refine take_ (i := 15) (N := some 91) (v := ?_) (a' := ?_) #[true, true, true, true, true, true, true, true, true, true, true, true, true, true, true, true, false, true, true, false, false, false, false, false, false, false, false, false, false, false, false] rfl rfl (by kernel_rfl) (fun _ _ _ h => h) (Or.inl ⟨by rfl, ?_⟩) hHeld ?_ ?_
      rotate_left
      · rintro w' ⟨s0, s1, s2, s3, s4⟩
        go_simp
        with_reducible rfl
      rotate_left
      · simp only [Act.put, List.setIfInBounds_toArray, List.set_cons_zero, List.set_cons_succ, i64_w, i32_w]
        rfl
      refine pure_ (i := 16) (N := some 92) (v := ?_) (a' := ?_) #[true, true, true, true, true, true, true, true, true, true, true, true, true, true, true, true, true, true, true, false, false, false, false, false, false, false, false, false, false, false, false] rfl rfl (by kernel_rfl) (fun _ _ _ h => h) (Or.inl ⟨by rfl, ?_⟩) ?_ ?_
      rotate_left
      · intro w'
        go_simp
        with_reducible rfl
      rotate_left
      · simp only [Act.put, List.setIfInBounds_toArray, List.set_cons_zero, List.set_cons_succ, i64_w, i32_w]
        rfl
      refine pure_ (i := 19) (N := some 95) (v := ?_) (a' := ?_) #[true, true, true, true, true, true, true, true, true, true, true, true, true, true, true, true, true, true, true, true, false, false, false, false, false, false, false, false, false, false, false] rfl rfl (by kernel_rfl) (fun _ _ _ h => h) (Or.inl ⟨by rfl, ?_⟩) ?_ ?_
      rotate_left
      · intro w'
        go_simp
        with_reducible rfl
      rotate_left
      · simp only [Act.put, List.setIfInBounds_toArray, List.set_cons_zero, List.set_cons_succ, i64_w, i32_w]
        rfl
      refine pure_ (i := 20) (N := some 96) (v := ?_) (a' := ?_) #[true, true, true, true, true, true, true, true, true, true, true, true, true, true, true, true, true, true, true, true, true, false, false, false, false, false, false, false, false, false, false] rfl rfl (by kernel_rfl) (fun _ _ _ h => h) (Or.inl ⟨by rfl, ?_⟩) ?_ ?_
      rotate_left
      · intro w'
        go_simp
        with_reducible rfl
      rotate_left
      · simp only [Act.put, List.setIfInBounds_toArray, List.set_cons_zero, List.set_cons_succ, i64_w, i32_w]
        rfl
      refine pure_ (i := 21) (N := some 97) (v := ?_) (a' := ?_) #[true, true, true, true, true, true, true, true, true, true, true, true, true, true, true, true, true, true, true, true, true, true, false, false, false, false, false, false, false, false, false] rfl rfl (by kernel_rfl) (fun _ _ _ h => h) (Or.inl ⟨by rfl, ?_⟩) ?_ ?_
      rotate_left
      · intro w'
        go_simp
        with_reducible rfl
      rotate_left
      · simp only [Act.put, List.setIfInBounds_toArray, List.set_cons_zero, List.set_cons_succ, i64_w, i32_w]
        rfl
      refine pure_ (i := 22) (N := some 98) (v := ?_) (a' := ?_) #[true, true, true, true, true, true, true, true, true, true, true, true, true, true, true, true, true, true, true, true, true, true, true, false, false, false, false, false, false, false, false] rfl rfl (by kernel_rfl) (fun _ _ _ h => h) (Or.inl ⟨by rfl, ?_⟩) ?_ ?_
      rotate_left
      · intro w'
        go_simp
        with_reducible rfl
      rotate_left
      · simp only [Act.put, List.setIfInBounds_toArray, List.set_cons_zero, List.set_cons_succ, i64_w, i32_w]
        rfl
      refine pure_ (i := 23) (N := some 99) (v := ?_) (a' := ?_) #[true, true, true, true, true, true, true, true, true, true, true, true, true, true, true, true, true, true, true, true, true, true, true, true, false, false, false, false, false, false, false] rfl rfl (by kernel_rfl) (fun _ _ _ h => h) (Or.inl ⟨by rfl, ?_⟩) ?_ ?_
      rotate_left
      · intro w'
        go_simp
        with_reducible rfl
      rotate_left
      · simp only [Act.put, List.setIfInBounds_toArray, List.set_cons_zero, List.set_cons_succ, i64_w, i32_w]
        rfl
      refine pure_ (i := 24) (N := some 100) (v := ?_) (a' := ?_) #[true, true, true, true, true, true, true, true, true, true, true, true, true, true, true, true, true, true, true, true, true, true, true, true, true, false, false, false, false, false, false] rfl rfl (by kernel_rfl) (fun _ _ _ h => h) (Or.inl ⟨by rfl, ?_⟩) ?_ ?_
      rotate_left
      · intro w'
        go_simp
        with_reducible rfl
      rotate_left
      · simp only [Act.put, List.setIfInBounds_toArray, List.set_cons_zero, List.set_cons_succ, i64_w, i32_w]
        rfl
      refine pure_ (i := 25) (N := some 101) (v := ?_) (a' := ?_) #[true, true, true, true, true, true, true, true, true, true, true, true, true, true, true, true, true, true, true, true, true, true, true, true, true, true, false, false, false, false, false] rfl rfl (by kernel_rfl) (fun _ _ _ h => h) (Or.inl ⟨by rfl, ?_⟩) ?_ ?_
      rotate_left
      · intro w'
        go_simp
        with_reducible rfl
      rotate_left
      · simp only [Act.put, List.setIfInBounds_toArray, List.set_cons_zero, List.set_cons_succ, i64_w, i32_w]
        rfl
      refine pure_ (i := 27) (N := some 103) (v := ?_) (a' := ?_) #[true, true, true, true, true, true, true, true, true, true, true, true, true, true, true, true, true, true, true, true, true, true, true, true, true, true, false, true, false, false, false] rfl rfl (by kernel_rfl) (fun _ _ _ h => h) (Or.inl ⟨by rfl, ?_⟩) ?_ ?_
      rotate_left
      · intro w'
        go_simp
        with_reducible rfl
      rotate_left
      · simp only [Act.put, List.setIfInBounds_toArray, List.set_cons_zero, List.set_cons_succ, i64_w, i32_w]
        rfl
      refine take_ (i := 26) (N := some 102) (v := ?_) (a' := ?_) #[true, true, true, true, true, true, true, true, true, true, true, true, true, true, true, true, true, true, true, true, true, true, true, true, true, true, true, true, false, false, false] rfl rfl (by kernel_rfl) (fun _ _ _ h => h) (Or.inl ⟨by rfl, ?_⟩) hHeld ?_ ?_
      rotate_left
      · rintro w' ⟨s0, s1, s2, s3, s4⟩
        go_simp
        with_reducible rfl
      rotate_left
      · simp only [Act.put, List.setIfInBounds_toArray, List.set_cons_zero, List.set_cons_succ, i64_w, i32_w]
        rfl
      refine pure_ (i := 28) (N := some 104) (v := ?_) (a' := ?_) #[true, true, true, true, true, true, true, true, true, true, true, true, true, true, true, true, true, true, true, true, true, true, true, true, true, true, true, true, true, false, false] rfl rfl (by kernel_rfl) (fun _ _ _ h => h) (Or.inl ⟨by rfl, ?_⟩) ?_ ?_
      rotate_left
      · intro w'
        go_simp
        with_reducible rfl
      rotate_left
      · simp only [Act.put, List.setIfInBounds_toArray, List.set_cons_zero, List.set_cons_succ, i64_w, i32_w]
        rfl
      refine pure_ (i := 29) (N := some 105) (v := ?_) (a' := ?_) #[true, true, true, true, true, true, true, true, true, true, true, true, true, true, true, true, true, true, true, true, true, true, true, true, true, true, true, true, true, true, false] rfl rfl (by kernel_rfl) (fun _ _ _ h => h) (Or.inl ⟨by rfl, ?_⟩) ?_ ?_
      rotate_left
      · intro w'
        go_simp
        with_reducible rfl
      rotate_left
      · simp only [Act.put, List.setIfInBounds_toArray, List.set_cons_zero, List.set_cons_succ, i64_w, i32_w]
        rfl
      refine pure_ (i := 30) (N := some 4) (v := ?_) (a' := ?_) #[true, true, true, true, true, true, true, true, true, true, true, true, true, true, true, true, true, true, true, true, true, true, true, true, true, true, true, true, true, true, true] rfl rfl (by kernel_rfl) (fun _ _ _ h => h) (Or.inl ⟨by rfl, ?_⟩) ?_ ?_
      rotate_left
      · intro w'
        go_simp
        with_reducible rfl
      rotate_left
      · simp only [Act.put, List.setIfInBounds_toArray, List.set_cons_zero, List.set_cons_succ, i64_w, i32_w]
        rfl
      refine done_ (by kernel_rfl) ?_
      clear hHeld
      go_wp2
      go_ret
      exact ⟨rfl, HB.out⟩
end Go.Proofs.YtnijnemkjnnolaaDoor.P
