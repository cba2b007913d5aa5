/- The texts of the law BraceKeys, and what the reader makes of each: closed facts. -/
import Derived.Test.YtnijnemkjnnolaaDoorPx11
namespace Go.Proofs.YtnijnemkjnnolaaDoor.P
open Go.RowKit Go.Proofs.YtnijnemkjnnolaaDoorW.PrintWords Go.Proofs.YtnijnemkjnnolaaDoorW.PrintLast Go.Proofs.YtnijnemkjnnolaaDoorW.PrintMore
attribute [local go_sem] max2_int min2_int max_two min_two max_three min_three max_four min_four
set_option linter.unusedVariables false
set_option linter.unusedSimpArgs false
/-! ### transhumanceref1_Digits: function 11 -/
def transhumanceref1_Digits.f : Nat → Int → Option (ByteArray)
  | 0, _ => none
  | k + 1, a0 => if a0 ≥ 10 then ((transhumanceref1_Digits.f k (wrap64 (Int.tdiv a0 10))).bind fun t163 => ((transhumanceref1_Digits.f k (Int.tmod a0 10)).bind fun t164 => (if t163.size + t164.size ≤ 9223372036854775807 then (some (t163 ++ t164)) else (none)))) else (some (strOfNums (([(wrap64 (48 + a0)) % 256] : List Int))))
theorem transhumanceref1_Digits.mono_l : ∀ k, (∀ y0, LeO (transhumanceref1_Digits.f k y0) (transhumanceref1_Digits.f (k + 1) y0))
  | 0 => fun _ r h => by simp [transhumanceref1_Digits.f] at h
  | k + 1 => by
    have ih0 := transhumanceref1_Digits.mono_l k
    · intro y0
      unfold transhumanceref1_Digits.f
      repeat' first
      | (with_reducible exact ih0 _)
      | (with_reducible exact LeO.refl _)
      | (with_reducible exact LeO.none _)
      | (with_reducible refine LeO.ite ?_ ?_)
      | (with_reducible refine LeO.bind ?_ (fun _ => ?_))
      | exact ih0 _
      | exact LeO.none _
      | refine LeO.ite ?_ ?_
      | refine LeO.bind ?_ (fun _ => ?_)
theorem transhumanceref1_Digits.mono : ∀ a0 k, LeO (transhumanceref1_Digits.f k a0) (transhumanceref1_Digits.f (k + 1) a0) := by
  intro a0 k
  have ih0 := transhumanceref1_Digits.mono_l k
  exact ih0 a0
set_option maxHeartbeats 8000000 in
set_option maxRecDepth 100000 in
theorem transhumanceref1_Digits.calls (k : Nat) : ∀ (a0 : Int) (r : ByteArray) (w : World) (h : transhumanceref1_Digits.f k a0 = some r),
    Calls Tryd.prog 11 #[.int .i64 a0] w fun e w' => e = .returned (.string r) ∧ Below w.heap.size w w' := by
  induction k using Nat.strongRecOn with
  | _ k ih =>
  intro a0 r w h
  cases k with
  | zero => exact absurd h (by simp [transhumanceref1_Digits.f])
  | succ k =>
  simp only [transhumanceref1_Digits.f] at h
  have HB := Aside0.mk (Below.refl w.heap.size w)
  have H : (if a0 ≥ 10 then ((transhumanceref1_Digits.f k (wrap64 (Int.tdiv a0 10))).bind fun t163 => ((transhumanceref1_Digits.f k (Int.tmod a0 10)).bind fun t164 => (if t163.size + t164.size ≤ 9223372036854775807 then (some (t163 ++ t164)) else (none)))) else (some (strOfNums (([(wrap64 (48 + a0)) % 256] : List Int))))) = some r := h
  clear h
  by_cases c2 : a0 ≥ 10
  · rw [if_pos c2] at H
    have c2b0 : decide (10 ≤ a0) = true := decide_eq_true c2
    clear c2
    replace H := Option.bind_eq_some_iff.mp H
    obtain ⟨t163, A30, H⟩ := H
    replace H : ((transhumanceref1_Digits.f k (Int.tmod a0 10)).bind fun t164 => (if t163.size + t164.size ≤ 9223372036854775807 then (some (t163 ++ t164)) else (none))) = some r := H
    have A3 := Aside0.mk A30
    clear A30
    replace H := Option.bind_eq_some_iff.mp H
    obtain ⟨t164, A40, H⟩ := H
    replace H : (if t163.size + t164.size ≤ 9223372036854775807 then (some (t163 ++ t164)) else (none)) = some r := H
    have A4 := Aside0.mk A40
    clear A40
    by_cases c5 : t163.size + t164.size ≤ 9223372036854775807
    · rw [if_pos c5] at H
      have c5b0 := eq_true c5
      have c5b1 : decide (t163.size + t164.size ≤ 9223372036854775807) = true := decide_eq_true c5
      try have c5b2 : (9223372036854775807 < t163.size + t164.size) = False := eq_false (Nat.not_lt.2 c5)
      obtain rfl := Option.some.inj H
      go_enter Tryd.func11, Tryd.ntmps11
      go_wp2_with (first | ((with_reducible refine gate_callee (f := 11) rfl ?_); refine goesL_ (some 7) rfl rfl Tryd.func11 (by kernel_rfl) rfl #[.int .i64 (wrap64 (Int.tdiv a0 10))] rfl (by (try simp only [List.map_toArray, List.map_cons, List.map_nil]); first | done | rfl | (simp only [List.length_drop, List.length_take]; rfl)) ?_; (with_reducible refine (ih k (by omega) (wrap64 (Int.tdiv a0 10)) t163 _ A3.out).mono ?_); rintro e w6 ⟨rfl, hb⟩; refine ⟨_, rfl, ?_⟩; have n0_ := Aside0.mk (below_step (by repeat (first | (with_reducible first | exact HB.out | apply below_alloc | apply pw_below_drewN | apply below_drew1) | exact HB.out)) hb); clear HB; have HB := n0_; clear n0_; (try clear hb); (try clear hb2); (try clear hk); (try clear hi)) | ((with_reducible refine gate_callee (f := 11) rfl ?_); refine goesL_ (some 10) rfl rfl Tryd.func11 (by kernel_rfl) rfl #[.int .i64 (Int.tmod a0 10)] rfl (by (try simp only [List.map_toArray, List.map_cons, List.map_nil]); first | done | rfl | (simp only [List.length_drop, List.length_take]; rfl)) ?_; (with_reducible refine (ih k (by omega) (Int.tmod a0 10) t164 _ A4.out).mono ?_); rintro e w7 ⟨rfl, hb⟩; refine ⟨_, rfl, ?_⟩; have n0_ := Aside0.mk (below_step (by repeat (first | (with_reducible first | exact HB.out | apply below_alloc | apply pw_below_drewN | apply below_drew1) | exact HB.out)) hb); clear HB; have HB := n0_; clear n0_; (try clear hb); (try clear hb2); (try clear hk); (try clear hi)))
      go_ret
      exact ⟨by first | rfl | (simp [errW_none, errW_some] <;> rfl) | (simp [*, errW_none, errW_some] <;> rfl), by repeat (first | (with_reducible first | exact HB.out | apply below_alloc | apply pw_below_drewN | apply below_drew1) | exact HB.out)⟩
    · rw [if_neg c5] at H
      exact absurd H (by simp)
  · rw [if_neg c2] at H
    have c2b0 : decide (10 ≤ a0) = false := decide_eq_false c2
    clear c2
    obtain ⟨y165, hy165⟩ : ∃ y_ : List Int, y_ = (([(wrap64 (48 + a0)) % 256] : List Int)) := ⟨_, rfl⟩
    replace H : (some (strOfNums y165)) = some r := by first | (rw [hy165]; with_reducible exact H) | (have H2_ := (Option.bind_some _ _).symm.trans H; rw [hy165]; with_reducible exact H2_) | (have H2_ := (Option.bind_some _ _).symm.trans H; with_reducible exact H2_) | with_reducible exact H | (rw [hy165]; exact H) | exact H
    have Ny165 := Aside0.mk hy165
    clear hy165
    obtain rfl := Option.some.inj H
    go_enter Tryd.func11, Tryd.ntmps11
    go_wp2_with (first | ((with_reducible refine gate_dst (N := 15) rfl ?_); refine Kd.R_lit (Kd.int .u8) _ 5 ?hg (N := 15) ?hd (xs := ([(wrap64 (48 + a0)) % 256] : List Int)) (inner := [.int .u8 ((wrap64 (48 + a0)) % 256)]) (ok := fun _ => True) (okp := fun _ => True) ?hr ?hp (fun _ hk => hk) trivial (Below.refl _ _) (Nat.le_refl _) (by simp) ?_; (case hd => rfl); (case hg => rfl); (case hr => first | (go_simp; done) | (go_simp; rfl)); (case hp => exact (Reps.one (show Kd.M (Kd.int .u8) _ _ _ ((wrap64 (48 + a0)) % 256) [.int .u8 ((wrap64 (48 + a0)) % 256)] from rfl) (Reps.none _ _))); intro v166 w8 ho9 hb hg_ hnew_; clear hg_ hnew_; (first | rw [← Ny165.out] at ho9 | (simp only [Int.reduceToNat] at ho9; rw [← Ny165.out] at ho9)); have n0_ := Aside0.mk (Kd.R_lower ho9 (below_size (by repeat (first | (with_reducible first | exact HB.out | apply below_alloc | apply pw_below_drewN | apply below_drew1) | exact HB.out)))); have n1_ := Aside0.mk (below_step (by repeat (first | (with_reducible first | exact HB.out | apply below_alloc | apply pw_below_drewN | apply below_drew1) | exact HB.out)) hb); clear HB; have HO167 := n0_; have HB := n1_; clear n0_ n1_; clear hb ho9; have hcv10 := own_string (P := Tryd.prog) Tryd.underlying39 Tryd.underlying5 Tryd.underlying9 (Kd.own_of_R HO167.out)))
    go_ret
    exact ⟨by first | rfl | (simp [errW_none, errW_some] <;> rfl) | (simp [*, errW_none, errW_some] <;> rfl), by repeat (first | (with_reducible first | exact HB.out | apply below_alloc | apply pw_below_drewN | apply below_drew1) | exact HB.out)⟩

-- NOT PRINTED: function 4 (transhumancelaw5_BraceKeys)

/-! ### BraceKeys: the texts -/
def dg (i : Nat) : ByteArray := (transhumanceref1_Digits.f 100 i).getD ⟨#[]⟩
theorem dg_at : ∀ i : Nat, i < 11 → transhumanceref1_Digits.f 100 (i : Int) = some (dg i) ∧ (dg i).size ≤ 2 := by
  intro i hi
  obtain rfl | rfl | rfl | rfl | rfl | rfl | rfl | rfl | rfl | rfl | rfl : i = 0 ∨ i = 1 ∨ i = 2 ∨ i = 3 ∨ i = 4 ∨ i = 5 ∨ i = 6 ∨ i = 7 ∨ i = 8 ∨ i = 9 ∨ i = 10 := by omega
  all_goals exact ⟨by kernel_rfl, by decide +kernel⟩
def keysS : Nat → ByteArray
  | 0 => ⟨#[123]⟩
  | i + 1 => ((((keysS i ++ ⟨#[34, 107]⟩) ++ dg i) ++ ⟨#[34, 58]⟩) ++ dg i) ++ ⟨#[44]⟩
theorem keysS_size : ∀ i, i < 12 → (keysS i).size ≤ 1 + 9 * i
  | 0, _ => by decide
  | i + 1, h => by
    have h1 := keysS_size i (by omega)
    have h2 := (dg_at i (by omega)).2
    show ((((keysS i ++ ⟨#[34, 107]⟩) ++ dg i) ++ ⟨#[34, 58]⟩) ++ dg i ++ ⟨#[44]⟩).size ≤ _
    simp only [ByteArray.size_append]
    have a1 : (⟨#[34, 107]⟩ : ByteArray).size = 2 := rfl
    have a2 : (⟨#[34, 58]⟩ : ByteArray).size = 2 := rfl
    have a3 : (⟨#[44]⟩ : ByteArray).size = 1 := rfl
    omega
def keysX (n k : Nat) : ByteArray := ((keysS n ++ ⟨#[34, 107]⟩) ++ dg k) ++ ⟨#[34, 58, 48, 125]⟩
def keysY (n k : Nat) : ByteArray := ((keysS n ++ ⟨#[34, 75]⟩) ++ dg k) ++ ⟨#[34, 58, 48, 125]⟩
def keysZ : ByteArray := ⟨#[123, 34, 97, 47, 34, 58, 49, 44, 34, 97, 92, 47, 34, 58, 50, 125]⟩
def keysOk (n k : Nat) : Bool := (parseP (keysX n k)).2.2 == 4 && decide (transhumanceref1_Place.f 300 (keysX n k) (keysS n).size = some (parseP (keysX n k)).2.1) && (parseP (keysY n k)).2.2 == 0 && (parseP (keysY n k)).1.f3.length == n + 1
theorem keys_1_0 : keysOk 1 0 = true := by kernel_rfl
theorem keys_2_0 : keysOk 2 0 = true := by kernel_rfl
theorem keys_2_1 : keysOk 2 1 = true := by kernel_rfl
theorem keys_3_0 : keysOk 3 0 = true := by kernel_rfl
theorem keys_3_1 : keysOk 3 1 = true := by kernel_rfl
theorem keys_3_2 : keysOk 3 2 = true := by kernel_rfl
theorem keys_4_0 : keysOk 4 0 = true := by kernel_rfl
theorem keys_4_1 : keysOk 4 1 = true := by kernel_rfl
theorem keys_4_2 : keysOk 4 2 = true := by kernel_rfl
theorem keys_4_3 : keysOk 4 3 = true := by kernel_rfl
theorem keys_5_0 : keysOk 5 0 = true := by kernel_rfl
theorem keys_5_1 : keysOk 5 1 = true := by kernel_rfl
theorem keys_5_2 : keysOk 5 2 = true := by kernel_rfl
theorem keys_5_3 : keysOk 5 3 = true := by kernel_rfl
theorem keys_5_4 : keysOk 5 4 = true := by kernel_rfl
theorem keys_6_0 : keysOk 6 0 = true := by kernel_rfl
theorem keys_6_1 : keysOk 6 1 = true := by kernel_rfl
theorem keys_6_2 : keysOk 6 2 = true := by kernel_rfl
theorem keys_6_3 : keysOk 6 3 = true := by kernel_rfl
theorem keys_6_4 : keysOk 6 4 = true := by kernel_rfl
theorem keys_6_5 : keysOk 6 5 = true := by kernel_rfl
theorem keys_7_0 : keysOk 7 0 = true := by kernel_rfl
theorem keys_7_1 : keysOk 7 1 = true := by kernel_rfl
theorem keys_7_2 : keysOk 7 2 = true := by kernel_rfl
theorem keys_7_3 : keysOk 7 3 = true := by kernel_rfl
theorem keys_7_4 : keysOk 7 4 = true := by kernel_rfl
theorem keys_7_5 : keysOk 7 5 = true := by kernel_rfl
theorem keys_7_6 : keysOk 7 6 = true := by kernel_rfl
theorem keys_8_0 : keysOk 8 0 = true := by kernel_rfl
theorem keys_8_1 : keysOk 8 1 = true := by kernel_rfl
theorem keys_8_2 : keysOk 8 2 = true := by kernel_rfl
theorem keys_8_3 : keysOk 8 3 = true := by kernel_rfl
theorem keys_8_4 : keysOk 8 4 = true := by kernel_rfl
theorem keys_8_5 : keysOk 8 5 = true := by kernel_rfl
theorem keys_8_6 : keysOk 8 6 = true := by kernel_rfl
theorem keys_8_7 : keysOk 8 7 = true := by kernel_rfl
theorem keys_9_0 : keysOk 9 0 = true := by kernel_rfl
theorem keys_9_1 : keysOk 9 1 = true := by kernel_rfl
theorem keys_9_2 : keysOk 9 2 = true := by kernel_rfl
theorem keys_9_3 : keysOk 9 3 = true := by kernel_rfl
theorem keys_9_4 : keysOk 9 4 = true := by kernel_rfl
theorem keys_9_5 : keysOk 9 5 = true := by kernel_rfl
theorem keys_9_6 : keysOk 9 6 = true := by kernel_rfl
theorem keys_9_7 : keysOk 9 7 = true := by kernel_rfl
theorem keys_9_8 : keysOk 9 8 = true := by kernel_rfl
theorem keys_10_0 : keysOk 10 0 = true := by kernel_rfl
theorem keys_10_1 : keysOk 10 1 = true := by kernel_rfl
theorem keys_10_2 : keysOk 10 2 = true := by kernel_rfl
theorem keys_10_3 : keysOk 10 3 = true := by kernel_rfl
theorem keys_10_4 : keysOk 10 4 = true := by kernel_rfl
theorem keys_10_5 : keysOk 10 5 = true := by kernel_rfl
theorem keys_10_6 : keysOk 10 6 = true := by kernel_rfl
theorem keys_10_7 : keysOk 10 7 = true := by kernel_rfl
theorem keys_10_8 : keysOk 10 8 = true := by kernel_rfl
theorem keys_10_9 : keysOk 10 9 = true := by kernel_rfl
theorem keys_all : ∀ n k : Nat, n < 11 → k < n → keysOk n k = true
  | 1, 0, _, _ => keys_1_0
  | 2, 0, _, _ => keys_2_0
  | 2, 1, _, _ => keys_2_1
  | 3, 0, _, _ => keys_3_0
  | 3, 1, _, _ => keys_3_1
  | 3, 2, _, _ => keys_3_2
  | 4, 0, _, _ => keys_4_0
  | 4, 1, _, _ => keys_4_1
  | 4, 2, _, _ => keys_4_2
  | 4, 3, _, _ => keys_4_3
  | 5, 0, _, _ => keys_5_0
  | 5, 1, _, _ => keys_5_1
  | 5, 2, _, _ => keys_5_2
  | 5, 3, _, _ => keys_5_3
  | 5, 4, _, _ => keys_5_4
  | 6, 0, _, _ => keys_6_0
  | 6, 1, _, _ => keys_6_1
  | 6, 2, _, _ => keys_6_2
  | 6, 3, _, _ => keys_6_3
  | 6, 4, _, _ => keys_6_4
  | 6, 5, _, _ => keys_6_5
  | 7, 0, _, _ => keys_7_0
  | 7, 1, _, _ => keys_7_1
  | 7, 2, _, _ => keys_7_2
  | 7, 3, _, _ => keys_7_3
  | 7, 4, _, _ => keys_7_4
  | 7, 5, _, _ => keys_7_5
  | 7, 6, _, _ => keys_7_6
  | 8, 0, _, _ => keys_8_0
  | 8, 1, _, _ => keys_8_1
  | 8, 2, _, _ => keys_8_2
  | 8, 3, _, _ => keys_8_3
  | 8, 4, _, _ => keys_8_4
  | 8, 5, _, _ => keys_8_5
  | 8, 6, _, _ => keys_8_6
  | 8, 7, _, _ => keys_8_7
  | 9, 0, _, _ => keys_9_0
  | 9, 1, _, _ => keys_9_1
  | 9, 2, _, _ => keys_9_2
  | 9, 3, _, _ => keys_9_3
  | 9, 4, _, _ => keys_9_4
  | 9, 5, _, _ => keys_9_5
  | 9, 6, _, _ => keys_9_6
  | 9, 7, _, _ => keys_9_7
  | 9, 8, _, _ => keys_9_8
  | 10, 0, _, _ => keys_10_0
  | 10, 1, _, _ => keys_10_1
  | 10, 2, _, _ => keys_10_2
  | 10, 3, _, _ => keys_10_3
  | 10, 4, _, _ => keys_10_4
  | 10, 5, _, _ => keys_10_5
  | 10, 6, _, _ => keys_10_6
  | 10, 7, _, _ => keys_10_7
  | 10, 8, _, _ => keys_10_8
  | 10, 9, _, _ => keys_10_9
  | 1, k + 1, _, h => absurd h (by omega)
  | 2, k + 2, _, h => absurd h (by omega)
  | 3, k + 3, _, h => absurd h (by omega)
  | 4, k + 4, _, h => absurd h (by omega)
  | 5, k + 5, _, h => absurd h (by omega)
  | 6, k + 6, _, h => absurd h (by omega)
  | 7, k + 7, _, h => absurd h (by omega)
  | 8, k + 8, _, h => absurd h (by omega)
  | 9, k + 9, _, h => absurd h (by omega)
  | 10, k + 10, _, h => absurd h (by omega)
  | 0, _, _, h => absurd h (by omega)
  | n + 11, _, h, _ => absurd h (by omega)
theorem keysZ_is : parseP keysZ = (⟨0, 0, ⟨#[]⟩, [], []⟩, (1, 9), 4) := by kernel_rfl
end Go.Proofs.YtnijnemkjnnolaaDoor.P
